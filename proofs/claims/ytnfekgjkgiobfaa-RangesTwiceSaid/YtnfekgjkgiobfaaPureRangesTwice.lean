/- Of the law RangesTwice: for all lists of ranges it tells true. -/
import Derived.Test.YtnfekgjkgiobfaaAllx15
import Derived.Test.YtnfekgjkgiobfaaNRangesL
namespace Go.Proofs.Ytnfekgjkgiobfaa.Pure
set_option linter.unusedVariables false
set_option linter.unusedSimpArgs false
set_option linter.unnecessarySimpa false
open Go.RowKit Go.Proofs.Ytnfekgjkgiobfaa.All Go.Proofs.YtnfekgjkgiobfaaW.PrintWords Go.Proofs.YtnfekgjkgiobfaaW.PrintLast
open Own
theorem RangesTwice : exegetelaw02_RangesTwice.Pure := by
  intro l m q hl hw hl2 hw2 hl3 hw3
  refine ⟨6000000, ?_⟩
  unfold exegetelaw02_RangesTwice.f
  rw [awake_f _ (by omega), Option.bind_some, if_pos rfl]
  by_cases c1 : (l.length : Int) > 60
  · rw [if_pos c1]; simp only [exegetelaw02_RangesTwice.j0, if_true]
  · rw [if_neg c1]
    by_cases c2 : (m.length : Int) > 60
    · rw [if_pos c2]; simp only [exegetelaw02_RangesTwice.j0, if_true]
    · rw [if_neg c2]
      by_cases c3 : (q.length : Int) > 60
      · rw [decide_eq_true c3]; simp only [exegetelaw02_RangesTwice.j0, if_true]
      · rw [decide_eq_false c3]
        have l1 := notB_length l 1114111
        have l2 := notB_length m 1114111
        have l3 := notB_length (notB l 1114111) 1114111
        have l4 := either_len l m
        have l5 := notB_length (eitherB l m) 1114111
        have l6 := both_len (notB l 1114111) (notB m 1114111)
        have l7 := less_len l m
        have l8 := less_len (lessB l m) q
        have l9 := either_len m q
        have l10 := less_len l (eitherB m q)
        have l11 := both_len l m
        have l12 := both_len m l
        have e1 : notB (notB l 1114111) 1114111 = pickB (hasB l) l := (all_not (notB l 1114111)).ext (norm_upto l) fun n h0 h1 => by
          rw [(all_not l).at h0 h1]; cases hasB l n <;> rfl
        have e2 : notB (eitherB l m) 1114111 = bothB (notB l 1114111) (notB m 1114111) := (all_not (eitherB l m)).ext (both_upto _ _) fun n h0 h1 => by
          unfold bothF
          rw [(all_not l).at h0 h1, (all_not m).at h0 h1, (either_upto l m).at h0 h1]
          unfold eitherF
          cases hasB l n <;> cases hasB m n <;> rfl
        have e3 : lessB (lessB l m) q = lessB l (eitherB m q) := (less_upto _ _).ext (less_upto _ _) fun n h0 h1 => by
          show (hasB (lessB l m) n && !hasB q n) = (hasB l n && !hasB (eitherB m q) n)
          rw [(less_upto l m).at h0 h1, (either_upto m q).at h0 h1]
          unfold lessF eitherF
          cases hasB l n <;> cases hasB m n <;> cases hasB q n <;> rfl
        have e4 : bothB l m = bothB m l := (both_upto _ _).ext (both_upto _ _) fun n h0 h1 => by
          unfold bothF
          cases hasB l n <;> cases hasB m n <;> rfl
        simp only [exegetelaw02_RangesTwice.j0, Bool.false_eq_true, if_false]
        rw [not_f l _ (by omega), Option.bind_some, not_f m _ (by omega), Option.bind_some, not_f _ _ (by omega), Option.bind_some, norm_f l (by omega), Option.bind_some, same_f _ _ _ (by omega) (by omega), Option.bind_some, e1, sameB_self, if_pos rfl]
        rw [either_f l m (by omega) (by omega), Option.bind_some, not_f _ _ (by omega), Option.bind_some, both_f _ _ (by omega) (by omega), Option.bind_some, same_f _ _ _ (by omega) (by omega), Option.bind_some, e2, sameB_self]
        simp only [exegetelaw02_RangesTwice.j1, if_true]
        rw [less_f l m (by omega) (by omega), Option.bind_some, less_f _ q (by omega) (by omega), Option.bind_some, either_f m q (by omega) (by omega), Option.bind_some, less_f l _ (by omega) (by omega), Option.bind_some, same_f _ _ _ (by omega) (by omega), Option.bind_some, e3, sameB_self, if_pos rfl]
        rw [both_f l m (by omega) (by omega), Option.bind_some, both_f m l (by omega) (by omega), Option.bind_some, same_f _ _ _ (by omega) (by omega), Option.bind_some, e4, sameB_self]
end Go.Proofs.Ytnfekgjkgiobfaa.Pure
