/- Of the law RangesHas: for all lists of ranges and every number it tells true. -/
import Derived.Test.YtnfekgjkgiobfaaAllx12
import Derived.Test.YtnfekgjkgiobfaaNRangesL
namespace Go.Proofs.Ytnfekgjkgiobfaa.Pure
set_option linter.unusedVariables false
set_option linter.unusedSimpArgs false
set_option linter.unnecessarySimpa false
open Go.RowKit Go.Proofs.Ytnfekgjkgiobfaa.All Go.Proofs.YtnfekgjkgiobfaaW.PrintWords Go.Proofs.YtnfekgjkgiobfaaW.PrintLast
open Own
theorem RangesHas : exegetelaw02_RangesHas.Pure := by
  intro l m n hl hw hl2 hw2 hn
  refine ⟨6000000, ?_⟩
  unfold exegetelaw02_RangesHas.f
  rw [awake_f _ (by omega), Option.bind_some, if_pos rfl]
  by_cases c1 : (l.length : Int) > 60
  · rw [if_pos c1]; simp only [exegetelaw02_RangesHas.j0, if_true]
  · rw [if_neg c1]
    by_cases c2 : (m.length : Int) > 60
    · rw [decide_eq_true c2]; simp only [exegetelaw02_RangesHas.j0, if_true]
    · rw [decide_eq_false c2]
      have hB := (both_upto l m).has n
      have hE := (either_upto l m).has n
      have hL := (less_upto l m).has n
      have hN := (all_not l).has n
      have hM := (norm_upto l).has n
      unfold bothF at hB
      unfold eitherF at hE
      unfold lessF at hL
      simp only [exegetelaw02_RangesHas.j0, exegetelaw02_RangesHas.j1, exegetelaw02_RangesHas.j2, Bool.false_eq_true, if_false, both_f l m (by omega) (by omega), either_f l m (by omega) (by omega), less_f l m (by omega) (by omega), not_f l 1114111 (by omega), norm_f l (by omega), has_f, Option.bind_some, hB, hE, hL, hN, hM]
      generalize hasB l n = x
      generalize hasB m n = y
      by_cases h0 : 0 ≤ n
      · by_cases h1 : n < 1114112
        · rw [if_pos (show n ≥ 0 from h0), decide_eq_true h0, decide_eq_true h1, decide_eq_true (show n ≤ 1114111 by omega)]
          cases x <;> cases y <;> rfl
        · rw [if_pos (show n ≥ 0 from h0), decide_eq_false h1, decide_eq_false (show ¬ n ≤ 1114111 by omega)]
          cases x <;> cases y <;> simp
      · rw [if_neg (show ¬ n ≥ 0 from h0), decide_eq_false h0]
        cases x <;> cases y <;> simp
end Go.Proofs.Ytnfekgjkgiobfaa.Pure
