/- Of the law LinesTell: for every list of bytes, every place and every tab it tells true. -/
import Derived.Test.YtahabdogohdjeaaDoorAllx9
import Derived.Test.YtahabdogohdjeaaDoorNLinesR
namespace Go.Proofs.YtahabdogohdjeaaDoor.Pure
set_option linter.unusedVariables false
set_option linter.unusedSimpArgs false
set_option linter.unnecessarySimpa false
open Go.RowKit Go.Proofs.YtahabdogohdjeaaDoor.All Go.Proofs.YtahabdogohdjeaaDoorW.PrintWords Go.Proofs.YtahabdogohdjeaaDoorW.PrintLast
theorem LinesTell : exegetelaw04_LinesTell.Pure := by
  intro l a tab hm hm1 hw ha ht
  have hs := Bytes.of_wf hw
  refine ⟨1000, ?_⟩
  unfold exegetelaw04_LinesTell.f
  rw [awake_f 1000 (by omega)]
  simp only [Option.bind_some, if_true]
  by_cases c1 : (l.length : Int) > 300
  · rw [decide_eq_true c1]; simp [exegetelaw04_LinesTell.j0]
  · rw [decide_eq_false c1]
    simp only [exegetelaw04_LinesTell.j0, Bool.false_eq_true, if_false]
    have he := endsOf_length l
    rw [ends_f l (by omega), rends_f l (by omega) 999 (by omega)]
    simp only [Option.bind_some]
    rw [rints_f _ (by omega) 999 (by omega), begin_f l (by omega) 999 (by omega) a, rbegin_f l (by omega) 999 (by omega) a]
    by_cases h : 0 ≤ a ∧ a ≤ (l.length : Int)
    · rw [if_pos h]
      simp only [Option.bind_some, if_true]
      rw [line_f, rline_f l (by omega) 999 (by omega) a, if_pos h]
      simp only [Option.bind_some, if_true]
      rw [first_f l hs, rfirst_f l (by omega) 999 (by omega) a, if_pos h]
      simp only [Option.bind_some, if_true]
      rw [col_f l hs (by omega) 999 (by omega), rcol_f l hs (by omega) 999 (by omega)]
      split <;> simp
    · rw [if_neg h]
      simp only [Option.bind_some, if_true]
      rw [line_f, rline_f l (by omega) 999 (by omega) a, if_neg h]
      simp only [Option.bind_some, if_true]
      rw [first_f l hs, rfirst_f l (by omega) 999 (by omega) a, if_neg h]
      simp only [Option.bind_some, if_true]
      rw [col_f l hs (by omega) 999 (by omega), rcol_f l hs (by omega) 999 (by omega)]
      split <;> simp
end Go.Proofs.YtahabdogohdjeaaDoor.Pure
