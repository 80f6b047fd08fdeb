/- Of the law RangesSize: for all lists of ranges it tells true. -/
import Derived.Test.YtnfekgjkgiobfaaAllx13
import Derived.Test.YtnfekgjkgiobfaaNRangesL
namespace Go.Proofs.Ytnfekgjkgiobfaa.Pure
set_option linter.unusedVariables false
set_option linter.unusedSimpArgs false
set_option linter.unnecessarySimpa false
open Go.RowKit Go.Proofs.Ytnfekgjkgiobfaa.All Go.Proofs.YtnfekgjkgiobfaaW.PrintWords Go.Proofs.YtnfekgjkgiobfaaW.PrintLast
open Own
theorem RangesSize : exegetelaw02_RangesSize.Pure := by
  intro l m hl hw hl2 hw2
  refine ⟨6000000, ?_⟩
  unfold exegetelaw02_RangesSize.f
  rw [awake_f _ (by omega), Option.bind_some, if_pos rfl]
  by_cases c1 : (l.length : Int) > 60
  · rw [if_pos c1]; simp only [exegetelaw02_RangesSize.j0, if_true]
  · rw [if_neg c1]
    by_cases c2 : (m.length : Int) > 60
    · rw [decide_eq_true c2]; simp only [exegetelaw02_RangesSize.j0, if_true]
    · rw [decide_eq_false c2]
      obtain ⟨N, hN⟩ := theN
      have lB := both_len l m
      have lE := either_len l m
      have lL := less_len l m
      have lN := notB_length l 1114111
      have e1 : cntF (bothF l m) N + cntF (eitherF l m) N = cntF (hasB l) N + cntF (hasB m) N := cntF_four N fun n _ _ => ⟨rfl, rfl⟩
      have e2 : cntF (hasB l) N = cntF (lessF l m) N + cntF (bothF l m) N := cntF_or N fun n _ _ => by
        unfold lessF bothF
        cases hasB l n <;> cases hasB m n <;> simp
      have e3 : cntF (fun _ => true) N = cntF (fun n => !hasB l n) N + cntF (hasB l) N := cntF_or N fun n _ _ => by
        cases hasB l n <;> simp
      rw [cntF_all N] at e3
      have b1 := cntF_bound (bothF l m) N
      have b2 := cntF_bound (eitherF l m) N
      have b3 := cntF_bound (hasB l) N
      have b4 := cntF_bound (hasB m) N
      have b5 := cntF_bound (lessF l m) N
      have b6 := cntF_bound (fun n => !hasB l n) N
      simp only [exegetelaw02_RangesSize.j0, Bool.false_eq_true, if_false]
      rw [both_f l m (by omega) (by omega), Option.bind_some, size_cnt _ _ (by omega) (by omega) N hN, Option.bind_some, (both_upto l m).cnt N hN]
      rw [either_f l m (by omega) (by omega), Option.bind_some, size_cnt _ _ (by omega) (by omega) N hN, Option.bind_some, (either_upto l m).cnt N hN]
      rw [size_cnt _ l (by omega) (by omega) N hN, Option.bind_some, size_cnt _ m (by omega) (by omega) N hN, Option.bind_some, wr (by omega) (by omega), wr (by omega) (by omega), if_pos e1]
      rw [less_f l m (by omega) (by omega), Option.bind_some, size_cnt _ _ (by omega) (by omega) N hN, Option.bind_some, (less_upto l m).cnt N hN, Option.bind_some, wr (by omega) (by omega), if_pos e2.symm]
      rw [not_f l 1114111 (by omega), Option.bind_some, size_cnt _ _ (by omega) (by omega) N hN, Option.bind_some, (all_not l).cnt N hN, Option.bind_some, wr (by omega) (by omega), beq_iff_eq.mpr (by omega)]
end Go.Proofs.Ytnfekgjkgiobfaa.Pure
