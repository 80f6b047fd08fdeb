/- Of the law UtfAscii: for every list of bytes, and every place, it tells true. -/
import Derived.Test.YtfcnpoamggbdfaaAllx8
import Derived.Test.YtfcnpoamggbdfaaNUtfC
namespace Go.Proofs.Ytfcnpoamggbdfaa.Pure
open Go.RowKit Go.Proofs.Ytfcnpoamggbdfaa.All Go.Proofs.YtfcnpoamggbdfaaW.PrintWords Go.Proofs.YtfcnpoamggbdfaaW.PrintLast
theorem UtfAscii : exegetelaw01_UtfAscii.Pure := by
  intro l a hl _ hb _
  have hs := Bytes.of_wf hb
  refine ⟨10, ?_⟩
  unfold exegetelaw01_UtfAscii.f
  rw [awake_f 10 (by omega)]
  simp only [Option.bind_some, if_true]
  have j : exegetelaw01_UtfAscii.j0 10 l a true true = some true := by simp [exegetelaw01_UtfAscii.j0]
  by_cases c1 : (l.length : Int) > 300
  · rw [if_pos c1]; exact j
  · rw [if_neg c1]
    by_cases c2 : a < 0
    · rw [if_pos c2]; exact j
    · rw [if_neg c2]
      by_cases c3 : a ≥ (l.length : Int)
      · rw [decide_eq_true c3]; exact j
      · rw [decide_eq_false c3]
        have h0 : 0 ≤ a := by omega
        have h1 : a < (l.length : Int) := by omega
        have hd := drop_rd l a h0 h1
        have hsd := hs.drop a.toNat
        rw [hd] at hsd
        have hb := hsd (rd l a) (by simp)
        simp only [exegetelaw01_UtfAscii.j0, Bool.false_eq_true, if_false]
        rw [next_f l a hs hl, next_in l a h0 h1, hd]
        simp only [Option.bind_some]
        rw [if_pos h0, if_pos h1, wrap_in _ (by omega) (by omega)]
        by_cases c4 : rd l a < 128
        · rw [if_pos c4, next_ascii _ _ hsd c4, if_pos rfl]; rfl
        · rw [if_neg c4]
          have hn := next_len _ hsd (by simp)
          rw [if_pos (by omega)]
          by_cases c5 : rd l a > 193
          · rw [if_pos c5]
            by_cases c6 : rd l a < 245
            · rw [if_pos c6]
            · rw [if_neg c6, next_head _ _ hsd (by omega) (by omega)]; rfl
          · rw [if_neg c5, next_head _ _ hsd (by omega) (by omega)]; rfl
end Go.Proofs.Ytfcnpoamggbdfaa.Pure
