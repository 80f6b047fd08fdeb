/- Texts of the claim TermSets, merged, without what it does not use. -/
import Derived.Test.YtcdahnkdongmdaaZTermSetsX15
import Derived.Test.YtcdahnkdongmdaaZTermSetsN10
namespace Go.Proofs.Ytcdahnkdongmdaa.Pure
set_option linter.unusedVariables false
set_option linter.unusedSimpArgs false
set_option linter.unnecessarySimpa false
open Go.RowKit Go.Proofs.Ytcdahnkdongmdaa.All Go.Proofs.YtcdahnkdongmdaaW.PrintWords Go.Proofs.YtcdahnkdongmdaaW.PrintLast
open Own
theorem TermSets : exegetelaw14_TermSets.Pure := by
  intro kind l m b a hkind hl hw hl2 hw2 hm1 hm2 hw1 ha
  have hb := Bytes.of_wf hw1
  refine ⟨3000000, ?_⟩
  unfold exegetelaw14_TermSets.f
  rw [tawake_f _ (by omega), Option.bind_some, if_pos rfl]
  by_cases c1 : (l.length : Int) > 20
  · rw [if_pos c1]; simp only [exegetelaw14_TermSets.j0, if_true]
  rw [if_neg c1]
  by_cases c2 : (m.length : Int) > 20
  · rw [if_pos c2]; simp only [exegetelaw14_TermSets.j0, if_true]
  rw [if_neg c2]
  by_cases c3 : (b.length : Int) > 200
  · rw [if_pos c3]; simp only [exegetelaw14_TermSets.j0, if_true]
  rw [if_neg c3]
  have main : kind = 0 ∨ kind = 1 → exegetelaw14_TermSets.j0 3000000 kind l m b a true false = some true := by
    intro hk
    obtain ⟨c, v, n, hn, hv, ht⟩ := term_num kind hk b hb a
    have lE : (eitherB l m).length ≤ 2 * (l.length + m.length) + 2 := by
      have := pickB_length (eitherF l m) (l ++ m); rw [List.length_append] at this; exact this
    have lB : (bothB l m).length ≤ 2 * (l.length + m.length) + 2 := by
      have := pickB_length (bothF l m) (l ++ m); rw [List.length_append] at this; exact this
    have lL : (lessB l m).length ≤ 2 * (l.length + m.length) + 2 := by
      have := pickB_length (lessF l m) (l ++ m); rw [List.length_append] at this; exact this
    have ee : ranges_Either.f l m = some (eitherB l m) := by unfold ranges_Either.f; rw [if_pos ⟨by omega, by omega⟩]
    have eb : ranges_Both.f l m = some (bothB l m) := by unfold ranges_Both.f; rw [if_pos ⟨by omega, by omega⟩]
    have el : ranges_Less.f l m = some (lessB l m) := by unfold ranges_Less.f; rw [if_pos ⟨by omega, by omega⟩]
    have hE : c = true → hasB (eitherB l m) v = (hasB l v || hasB m v) := fun h => (either_upto l m).at (hv h).1 (hv h).2
    have hB : c = true → hasB (bothB l m) v = (hasB l v && hasB m v) := fun h => (both_upto l m).at (hv h).1 (hv h).2
    have hL : c = true → hasB (lessB l m) v = (hasB l v && !hasB m v) := fun h => (less_upto l m).at (hv h).1 (hv h).2
    simp only [exegetelaw14_TermSets.j0, Bool.false_eq_true, if_false]
    rw [tmatch_f _ (by omega) kind 0 l (by omega) b hb a, Option.bind_some, tmatch_f _ (by omega) kind 0 m (by omega) b hb a, Option.bind_some, ee, Option.bind_some, tmatch_f _ (by omega) kind 0 _ (by omega) b hb a, Option.bind_some, eb, Option.bind_some, tmatch_f _ (by omega) kind 0 _ (by omega) b hb a, Option.bind_some, el, Option.bind_some, tmatch_f _ (by omega) kind 0 _ (by omega) b hb a, Option.bind_some, ht, ht, ht, ht, ht]
    cases c with
    | false => simp
    | true =>
      rw [hE rfl, hB rfl, hL rfl]
      cases hasB l v <;> cases hasB m v <;> simp [hn]
  by_cases k0 : kind = 0
  · rw [if_pos k0]; exact main (.inl k0)
  · rw [if_neg k0]
    by_cases k1 : kind = 1
    · rw [show (kind != 1) = false from bne_eq_false_iff_eq.mpr k1]; exact main (.inr k1)
    · rw [show (kind != 1) = true from bne_iff_ne.mpr k1]; simp only [exegetelaw14_TermSets.j0, if_true]
end Go.Proofs.Ytcdahnkdongmdaa.Pure
