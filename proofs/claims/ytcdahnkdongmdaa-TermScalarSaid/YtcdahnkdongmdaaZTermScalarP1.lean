/- Texts of the claim TermScalar, merged, without what it does not use. -/
import Derived.Test.YtcdahnkdongmdaaZTermScalarX16
import Derived.Test.YtcdahnkdongmdaaZTermScalarN10
import Derived.Test.YtcdahnkdongmdaaZTermScalarN11
namespace Go.Proofs.Ytcdahnkdongmdaa.Pure
set_option linter.unusedVariables false
set_option linter.unusedSimpArgs false
set_option linter.unnecessarySimpa false
open Go.RowKit Go.Proofs.Ytcdahnkdongmdaa.All Go.Proofs.YtcdahnkdongmdaaW.PrintWords Go.Proofs.YtcdahnkdongmdaaW.PrintLast
open Own
theorem TermScalar : exegetelaw14_TermScalar.Pure := by
  intro l b a hl hw hm1 hm2 hw1 ha
  have hb := Bytes.of_wf hw1
  refine ⟨3000000, ?_⟩
  unfold exegetelaw14_TermScalar.f
  rw [tawake_f _ (by omega), Option.bind_some, if_pos rfl]
  by_cases c1 : (l.length : Int) > 20
  · rw [if_pos c1]; simp only [exegetelaw14_TermScalar.j0, if_true]
  rw [if_neg c1]
  by_cases c2 : (b.length : Int) > 200
  · rw [if_pos c2]; simp only [exegetelaw14_TermScalar.j0, if_true]
  rw [if_neg c2]
  by_cases c3 : a < 0
  · rw [if_pos c3]; simp only [exegetelaw14_TermScalar.j0, if_true]
  rw [if_neg c3]
  by_cases c4 : a ≥ (b.length : Int)
  · rw [decide_eq_true c4]; simp only [exegetelaw14_TermScalar.j0, if_true]
  rw [decide_eq_false c4]
  simp only [exegetelaw14_TermScalar.j0, Bool.false_eq_true, if_false]
  have hby := rd_byte hb (a := a) (by omega) (by omega)
  have t1 : termM 1 l b a = if 0 ≤ (nextOf b a).1 ∧ hasB l (nextOf b a).1 = true then (nextOf b a).2 else 0 := by
    unfold termM
    rw [if_neg (by decide), if_pos rfl, setM_next l b hb a]
  have t0 : termM 0 l b a = if hasB l (rd b a) = true then 1 else 0 := by
    unfold termM octB
    rw [if_pos rfl, if_pos ⟨by omega, by omega⟩]
  have hn : 0 ≤ (nextOf b a).1 → 0 < (nextOf b a).2 := by
    intro h0
    rw [nextq_in b a (by omega) (by omega)] at h0 ⊢
    rcases next_cases _ (hb.drop a.toNat) with ⟨r, hr, hp, e⟩ | ⟨_, e⟩
    · rw [e]
      have h2 := sz_range r
      show 0 < szOf r; omega
    · rw [e] at h0; simp at h0
  rw [next_f b a hb hm1, Option.bind_some, tmatch_f _ (by omega) 1 0 l (by omega) b hb a, Option.bind_some, tmatch_f _ (by omega) 0 0 l (by omega) b hb a, Option.bind_some, t1, t0]
  unfold ranges_Has.f
  simp only [Option.bind_some]
  rw [wrq (x := rd b a) (by omega) (by omega), if_pos (show 0 ≤ a by omega), if_pos (show a < (b.length : Int) by omega)]
  generalize (nextOf b a).1 = r at *
  generalize (nextOf b a).2 = n at *
  by_cases h0 : 0 ≤ r
  · have h1 := hn h0
    rw [if_pos (show r ≥ 0 from h0)]
    cases hasB l r <;> cases hasB l (rd b a) <;> simp [h0, h1]
  · rw [if_neg (show ¬ r ≥ 0 from h0)]
    cases hasB l (rd b a) <;> simp [h0] <;> omega
end Go.Proofs.Ytcdahnkdongmdaa.Pure
