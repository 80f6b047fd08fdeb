/- Texts of the claim TermBounds, merged, without what it does not use. -/
import Derived.Test.YtcdahnkdongmdaaZTermBoundsX12
import Derived.Test.YtcdahnkdongmdaaZTermBoundsN11
namespace Go.Proofs.Ytcdahnkdongmdaa.Pure
set_option linter.unusedVariables false
set_option linter.unusedSimpArgs false
set_option linter.unnecessarySimpa false
open Go.RowKit Go.Proofs.Ytcdahnkdongmdaa.All Go.Proofs.YtcdahnkdongmdaaW.PrintWords Go.Proofs.YtcdahnkdongmdaaW.PrintLast
open Own
theorem TermBounds : exegetelaw14_TermBounds.Pure := by
  intro kind l n0 b a hkind hn0 hl hw hm1 hm2 hw1 ha
  have hb := Bytes.of_wf hw1
  refine ⟨3000000, ?_⟩
  unfold exegetelaw14_TermBounds.f
  rw [tawake_f _ (by omega), Option.bind_some, if_pos rfl]
  by_cases c1 : (l.length : Int) > 20
  · rw [if_pos c1]; simp only [exegetelaw14_TermBounds.j0, if_true]
  rw [if_neg c1]
  by_cases c2 : (b.length : Int) > 200
  · rw [decide_eq_true c2]; simp only [exegetelaw14_TermBounds.j0, if_true]
  rw [decide_eq_false c2]
  obtain ⟨h0, h1, h2, h3, h4⟩ := term_in kind l b a
  simp only [exegetelaw14_TermBounds.j0, Bool.false_eq_true, if_false]
  rw [tmatch_f _ (by omega) kind n0 l (by omega) b hb a, Option.bind_some, tpart_f _ (by omega) kind n0 l (by omega) b hb a, Option.bind_some]
  generalize termM kind l b a = n at *
  generalize termP kind l b a = p at *
  rw [if_neg (by simp), if_neg (by show ¬ n < 0; omega), if_neg (by show ¬ n > 4; omega), if_neg (by show ¬ p < n; omega), if_neg (by omega)]
  by_cases hp : p = 0
  · simp [hp]
  · obtain ⟨g1, g2, g3⟩ := h4.resolve_left hp
    have hk : kind = 0 ∨ kind = 1 := by
      by_cases k0 : kind = 0
      · exact .inl k0
      · by_cases k1 : kind = 1
        · exact .inr k1
        · exact absurd (h3 k0 k1) hp
    have hw : wrap64 ((b.length : Int) - a) = (b.length : Int) - a := wrq (by omega) (by omega)
    rw [hw, if_neg hp, if_pos (show a ≥ 0 from g1), if_pos g2, decide_eq_true g3]
    rcases hk with rfl | rfl
    · rw [if_pos rfl]
    · rw [if_neg (by decide), if_pos rfl]
end Go.Proofs.Ytcdahnkdongmdaa.Pure
