/- Of the law RangesPart: for every list of ranges and every number it tells true. -/
import Derived.Test.YtnfekgjkgiobfaaAllx16
import Derived.Test.YtnfekgjkgiobfaaNRangesL
namespace Go.Proofs.Ytnfekgjkgiobfaa.Pure
set_option linter.unusedVariables false
set_option linter.unusedSimpArgs false
set_option linter.unnecessarySimpa false
open Go.RowKit Go.Proofs.Ytnfekgjkgiobfaa.All Go.Proofs.YtnfekgjkgiobfaaW.PrintWords Go.Proofs.YtnfekgjkgiobfaaW.PrintLast
open Own
theorem RangesPart : exegetelaw02_RangesPart.Pure := by
  intro l n hl hw hn
  refine ⟨6000000, ?_⟩
  unfold exegetelaw02_RangesPart.f
  rw [awake_f _ (by omega), Option.bind_some, if_pos rfl]
  by_cases c1 : (l.length : Int) > 60
  · rw [if_pos c1]; simp only [exegetelaw02_RangesPart.j0, if_true]
  rw [if_neg c1]
  by_cases c2 : n < 0
  · rw [if_pos c2]; simp only [exegetelaw02_RangesPart.j0, if_true]
  rw [if_neg c2]
  by_cases c3 : n > 1114111
  · rw [decide_eq_true c3]; simp only [exegetelaw02_RangesPart.j0, if_true]
  rw [decide_eq_false c3]
  obtain ⟨N, hN⟩ := theN
  have lB := both_len l [⟨0, n⟩]
  have lL := less_len l [⟨0, n⟩]
  rw [List.length_singleton] at lB lL
  have uB := both_upto l [⟨0, n⟩]
  have uL := less_upto l [⟨0, n⟩]
  have aB : ∀ m, 0 ≤ m → m < 1114112 → hasB (bothB l [⟨0, n⟩]) m = (hasB l m && decide (m ≤ n)) := fun m h0 h1 => by
    rw [uB.at h0 h1]; unfold bothF; rw [to_has n m h0]
  have aL : ∀ m, 0 ≤ m → m < 1114112 → hasB (lessB l [⟨0, n⟩]) m = (hasB l m && !decide (m ≤ n)) := fun m h0 h1 => by
    rw [uL.at h0 h1]; unfold lessF; rw [to_has n m h0]
  obtain ⟨low, hlow⟩ : ∃ low, low = bothB l [⟨0, n⟩] := ⟨_, rfl⟩
  obtain ⟨high, hhigh⟩ : ∃ high, high = lessB l [⟨0, n⟩] := ⟨_, rfl⟩
  rw [← hlow] at lB uB aB
  rw [← hhigh] at lL uL aL
  have l3 := both_len low high
  have l4 := either_len low high
  have l5 := notB_length [] 1114111
  have l6 := notB_length [] n
  have l7 := less_len (notB [] 1114111) (notB [] n)
  have l8 := notB_length [⟨0, n⟩] 1114111
  rw [List.length_nil] at l5 l6
  rw [List.length_singleton] at l8
  have z : ((bothB low high).length : Int) = 0 := (both_upto low high).empty.mpr fun m h0 h1 => by
    unfold bothF
    rw [aB m h0 h1, aL m h0 h1]
    cases hasB l m <;> cases decide (m ≤ n) <;> rfl
  have e1 : eitherB low high = pickB (hasB l) l := (either_upto low high).ext (norm_upto l) fun m h0 h1 => by
    unfold eitherF
    rw [aB m h0 h1, aL m h0 h1]
    cases hasB l m <;> cases decide (m ≤ n) <;> rfl
  have e2 : cntF (hasB l) N = cntF (hasB low) N + cntF (hasB high) N := cntF_or N fun m h0 h1 => by
    rw [aB m h0 (by omega), aL m h0 (by omega)]
    cases hasB l m <;> cases decide (m ≤ n) <;> simp
  have e3 : lessB (notB [] 1114111) (notB [] n) = notB [⟨0, n⟩] 1114111 := (less_upto _ _).ext (all_not _) fun m h0 h1 => by
    unfold lessF
    rw [(all_not []).at h0 h1, (not_upto [] n).at h0 h1, to_has n m h0, hasB_nil]
    cases decide (m ≤ n) <;> rfl
  have b1 := cntF_bound (hasB low) N
  have b2 := cntF_bound (hasB high) N
  simp only [exegetelaw02_RangesPart.j0, Bool.false_eq_true, if_false]
  rw [both_f l _ (by omega) (by simp), Option.bind_some, ← hlow, less_f l _ (by omega) (by simp), Option.bind_some, ← hhigh, both_f _ _ (by omega) (by omega), Option.bind_some, if_pos z]
  rw [either_f _ _ (by omega) (by omega), Option.bind_some, norm_f l (by omega), Option.bind_some, same_f _ _ _ (by omega) (by omega), Option.bind_some, e1, sameB_self, if_pos rfl]
  rw [size_cnt _ low (by omega) (by omega) N hN, Option.bind_some, size_cnt _ high (by omega) (by omega) N hN, Option.bind_some, size_cnt _ l (by omega) (by omega) N hN, Option.bind_some, wr (by omega) (by omega), if_pos e2.symm]
  rw [not_f [] _ (by simp), Option.bind_some, not_f [] _ (by simp), Option.bind_some, less_f _ _ (by omega) (by omega), Option.bind_some, not_f _ _ (by simp), Option.bind_some, same_f _ _ _ (by omega) (by omega), Option.bind_some, e3, sameB_self]
end Go.Proofs.Ytnfekgjkgiobfaa.Pure
