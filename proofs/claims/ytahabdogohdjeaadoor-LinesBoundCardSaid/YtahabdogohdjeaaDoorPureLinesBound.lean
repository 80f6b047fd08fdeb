/- Of the law LinesBound: for every list of bytes, every place and every tab it tells true. -/
import Derived.Test.YtahabdogohdjeaaDoorAllx11
import Derived.Test.YtahabdogohdjeaaDoorNLinesA
namespace Go.Proofs.YtahabdogohdjeaaDoor.Pure
set_option linter.unusedVariables false
set_option linter.unusedSimpArgs false
set_option linter.unnecessarySimpa false
open Go.RowKit Go.Proofs.YtahabdogohdjeaaDoor.All Go.Proofs.YtahabdogohdjeaaDoorW.PrintWords Go.Proofs.YtahabdogohdjeaaDoorW.PrintLast
theorem colF_bound (l : List Int) (hs : Bytes l) (a tab : Int) (ha : a ≤ (l.length : Int)) (ht : 1 ≤ tab ∧ tab ≤ 16) :
    ∀ (d : Nat) (col i : Int), 0 ≤ i → i ≤ a → a - i ≤ d → 0 ≤ col → col ≤ colF d l a tab col i ∧ colF d l a tab col i ≤ col + 16 * (a - i) ∧ a - i ≤ 4 * (colF d l a tab col i - col) + 3
  | 0, col, i, h0, h1, hd, hc => by unfold colF; omega
  | d + 1, col, i, h0, h1, hd, hc => by
    unfold colF
    by_cases c : i < a
    · have hn := next_n l hs i h0 (by omega)
      rw [if_pos c]
      by_cases c2 : i + (nextOf l i).2 > a
      · rw [if_pos c2]; omega
      · rw [if_neg c2]
        have hst := stepC_in l tab col i ht hc
        have ih := colF_bound l hs a tab ha ht d (stepC l tab col i) (i + (nextOf l i).2) (by omega) (by omega) (by omega) (by omega)
        omega
    · rw [if_neg c]; omega
theorem LinesBound : exegetelaw04_LinesBound.Pure := by
  intro l a tab hm hm1 hw ha ht
  have hs := Bytes.of_wf hw
  refine ⟨1000, ?_⟩
  unfold exegetelaw04_LinesBound.f
  rw [awake_f 1000 (by omega)]
  simp only [Option.bind_some, if_true]
  by_cases c1 : (l.length : Int) > 300
  · rw [if_pos c1]; simp [exegetelaw04_LinesBound.j0]
  · rw [if_neg c1]
    by_cases c2 : a < 0
    · rw [if_pos c2]; simp [exegetelaw04_LinesBound.j0]
    · rw [if_neg c2]
      by_cases c3 : a > (l.length : Int)
      · rw [if_pos c3]; simp [exegetelaw04_LinesBound.j0]
      · rw [if_neg c3]
        by_cases c4 : tab < 1
        · rw [if_pos c4]; simp [exegetelaw04_LinesBound.j0]
        · rw [if_neg c4]
          by_cases c5 : tab > 16
          · rw [decide_eq_true c5]; simp [exegetelaw04_LinesBound.j0]
          · rw [decide_eq_false c5]
            simp only [exegetelaw04_LinesBound.j0, Bool.false_eq_true, if_false]
            rw [begin_f l (by omega) 999 (by omega) a, if_pos (by omega), col_f l hs (by omega) 999 (by omega) a tab, if_pos (by omega)]
            simp only [Option.bind_some]
            have hb := begN_le l a.toNat
            have hc := colF_bound l hs a tab (by omega) (by omega) a.toNat 0 (begN l a.toNat) (by omega) (by omega) (by omega) (by omega)
            change 0 ≤ colOf l a tab ∧ colOf l a tab ≤ 0 + 16 * (a - (begN l a.toNat : Int)) ∧ a - (begN l a.toNat : Int) ≤ 4 * (colOf l a tab - 0) + 3 at hc
            rw [wrap_in _ (by omega) (by omega), if_pos (by omega), if_pos (by omega), wrap_in (16 * _) (by omega) (by omega), if_pos (by omega), wrap_in (4 * _) (by omega) (by omega), wrap_in _ (by omega) (by omega)]
            rw [decide_eq_true (by omega)]
end Go.Proofs.YtahabdogohdjeaaDoor.Pure
