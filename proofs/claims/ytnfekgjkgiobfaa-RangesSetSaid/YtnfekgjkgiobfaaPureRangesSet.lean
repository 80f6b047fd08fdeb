/- Of the law RangesSet: for all lists of ranges and every number it tells true. -/
import Derived.Test.YtnfekgjkgiobfaaAllx11
import Derived.Test.YtnfekgjkgiobfaaNRangesO
namespace Go.Proofs.Ytnfekgjkgiobfaa.Pure
set_option linter.unusedVariables false
set_option linter.unusedSimpArgs false
set_option linter.unnecessarySimpa false
open Go.RowKit Go.Proofs.Ytnfekgjkgiobfaa.All Go.Proofs.YtnfekgjkgiobfaaW.PrintWords Go.Proofs.YtnfekgjkgiobfaaW.PrintLast
open Own
theorem RangesSet : exegetelaw02_RangesSet.Pure := by
  intro l m n hl hw hl2 hw2 hn
  have hn2 : -9223372036854775808 ≤ n ∧ n ≤ 9223372036854775807 := by
    have h1 : IntKind.i64.min = -9223372036854775808 := by decide
    have h2 : IntKind.i64.max = 9223372036854775807 := by decide
    simp only [Lit.wf, h1, h2, Bool.and_eq_true, decide_eq_true_eq] at hn
    exact hn
  refine ⟨6000000, ?_⟩
  unfold exegetelaw02_RangesSet.f
  rw [awake_f _ (by omega), Option.bind_some, if_pos rfl]
  by_cases c1 : (l.length : Int) > 60
  · rw [if_pos c1]; simp only [exegetelaw02_RangesSet.j0, if_true]
  · rw [if_neg c1]
    by_cases c2 : (m.length : Int) > 60
    · rw [decide_eq_true c2]; simp only [exegetelaw02_RangesSet.j0, if_true]
    · rw [decide_eq_false c2]; simp only [exegetelaw02_RangesSet.j0, Bool.false_eq_true, if_false]
      have hb := pickB_length (bothF l m) (l ++ m)
      have he := pickB_length (eitherF l m) (l ++ m)
      have hle := pickB_length (lessF l m) (l ++ m)
      have hno := notB_length l n
      rw [List.length_append] at hb he hle
      unfold ranges_Both.f ranges_Either.f ranges_Less.f
      rw [if_pos (by omega), Option.bind_some, rboth_f _ l m (by omega) (by omega) (by omega), Option.bind_some, rsame_f _ _ _ (by unfold bothB; omega) (by omega), Option.bind_some]
      rw [if_pos (by omega), Option.bind_some, reither_f _ l m (by omega) (by omega) (by omega), Option.bind_some, rsame_f _ _ _ (by unfold eitherB; omega) (by omega), Option.bind_some]
      rw [if_pos (by omega), Option.bind_some, rless_f _ l m (by omega) (by omega) (by omega), Option.bind_some, rsame_f _ _ _ (by unfold lessB; omega) (by omega), Option.bind_some]
      rw [not_f l n (by omega), Option.bind_some, rnot_f _ l n (by omega) hn2 (by omega), Option.bind_some, rsame_f _ _ _ (by omega) (by omega), Option.bind_some]
      rw [sameB_self, sameB_self, sameB_self, sameB_self]
      rfl
end Go.Proofs.Ytnfekgjkgiobfaa.Pure
