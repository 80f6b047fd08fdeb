/- Of the law RangesTell: for all lists of ranges and every number it tells true. -/
import Derived.Test.YtnfekgjkgiobfaaAllx9
import Derived.Test.YtnfekgjkgiobfaaNRangesO
namespace Go.Proofs.Ytnfekgjkgiobfaa.Pure
set_option linter.unusedVariables false
set_option linter.unusedSimpArgs false
set_option linter.unnecessarySimpa false
open Go.RowKit Go.Proofs.Ytnfekgjkgiobfaa.All Go.Proofs.YtnfekgjkgiobfaaW.PrintWords Go.Proofs.YtnfekgjkgiobfaaW.PrintLast
open Own
theorem RangesTell : exegetelaw02_RangesTell.Pure := by
  intro l m n hl hw hl2 hw2 hn
  refine ⟨6000000, ?_⟩
  unfold exegetelaw02_RangesTell.f
  rw [awake_f _ (by omega), Option.bind_some, if_pos rfl]
  by_cases c1 : (l.length : Int) > 60
  · rw [if_pos c1]; simp only [exegetelaw02_RangesTell.j0, if_true]
  · rw [if_neg c1]
    by_cases c2 : (m.length : Int) > 60
    · rw [decide_eq_true c2]; simp only [exegetelaw02_RangesTell.j0, if_true]
    · rw [decide_eq_false c2]; simp only [exegetelaw02_RangesTell.j0, Bool.false_eq_true, if_false]
      rw [rmay_f _ l (by omega) (by omega), Option.bind_some, rhas_f _ l n (by omega) (by omega), Option.bind_some, rsame_f _ l m (by omega) (by omega), Option.bind_some]
      unfold ranges_Norm.f
      rw [if_pos (by omega), Option.bind_some, rnorm_f _ l (by omega) (by omega), Option.bind_some, rsame_f _ _ _ (by have := pickB_length (hasB l) l; omega) (by omega), Option.bind_some, sameB_self, if_pos rfl, may_f _ l (by omega) hw (by omega), Option.bind_some, if_pos (beq_self_eq_true _)]
      unfold ranges_Has.f
      rw [Option.bind_some, if_pos (beq_self_eq_true _), same_f _ l m (by omega) (by omega), Option.bind_some, if_pos (beq_self_eq_true _), size_f _ l (by omega) (by omega), Option.bind_some, rsize_f _ l (by omega) (by omega), Option.bind_some, beq_self_eq_true]
end Go.Proofs.Ytnfekgjkgiobfaa.Pure
