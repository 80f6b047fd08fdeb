/- Of the law LinesLine: for every list of bytes and every place it tells true. -/
import Derived.Test.YtahabdogohdjeaaDoorAllx13
import Derived.Test.YtahabdogohdjeaaDoorNLinesA
namespace Go.Proofs.YtahabdogohdjeaaDoor.Pure
set_option linter.unusedVariables false
set_option linter.unusedSimpArgs false
set_option linter.unnecessarySimpa false
open Go.RowKit Go.Proofs.YtahabdogohdjeaaDoor.All Go.Proofs.YtahabdogohdjeaaDoorW.PrintWords Go.Proofs.YtahabdogohdjeaaDoorW.PrintLast
theorem first_all (l : List Int) : ∀ (d : Nat) (a : Int), 0 ≤ a → a ≤ (l.length : Int) → (l.length : Int) - a ≤ d → a ≤ Own.firstOf l a ∧ Own.firstOf l a ≤ (l.length : Int) ∧ Own.firstOf l (Own.firstOf l a) = Own.firstOf l a
  | 0, a, h0, h1, hd => by
    have e := first_end l a (by omega)
    rw [e, first_end l _ (by omega)]; omega
  | d + 1, a, h0, h1, hd => by
    by_cases c : a < (l.length : Int)
    · rw [first_step l a h0 c]
      by_cases cb : Own.blankB (rd l a) = true
      · rw [if_pos cb]
        have := first_all l d (a + 1) (by omega) (by omega) (by omega)
        omega
      · rw [if_neg cb, first_step l a h0 c, if_neg cb]; omega
    · rw [first_end l a (by omega), first_end l _ (by omega)]; omega
theorem line_l0 (l : List Int) (hs : Bytes l) (a : Int) (h0 : 0 ≤ a) (h1 : a ≤ (l.length : Int)) (hl : l.length ≤ 300) :
    ∀ (d k : Nat) (i : Int), (begN l a.toNat : Int) ≤ i → i ≤ a → a - i ≤ d → d < k → exegetelaw04_LinesLine.l0 k l a (begN l a.toNat) i = some true
  | d, 0, _, _, _, _, h => by omega
  | 0, k + 1, i, hb, hi, hd, hk => by
    simp only [exegetelaw04_LinesLine.l0]
    rw [if_neg (by omega)]
    have hf := first_all l l.length a h0 h1 (by omega)
    rw [first_f l hs, if_pos (by omega)]
    simp only [Option.bind_some]
    rw [if_pos (by omega), if_pos (by omega), first_f l hs, if_pos (by omega)]
    simp only [Option.bind_some]
    rw [if_pos (by omega)]
    have hbl := begN_le l a.toNat
    have hcb := cntN_beg l a.toNat
    have hcl := cntN_le l a.toNat
    by_cases cs : (begN l a.toNat : Int) = 0
    · have e0 : begN l a.toNat = 0 := by omega
      have ec : cntN l a.toNat = 0 := by rw [← hcb, e0]; rfl
      rw [if_pos cs, line_f, if_pos (by omega)]
      simp only [Option.bind_some]
      rw [if_pos (by omega)]
    · rw [if_neg cs, if_pos (by omega), line_f, if_pos (by omega)]
      simp only [Option.bind_some]
      rw [wrap_in _ (by omega) (by omega), line_f, if_pos (by omega)]
      simp only [Option.bind_some]
      have hfd := begN_feed l a.toNat (by omega)
      obtain ⟨b, hb2⟩ : ∃ b, begN l a.toNat = b + 1 := ⟨begN l a.toNat - 1, by omega⟩
      rw [hb2, Nat.add_sub_cancel] at hfd
      have ec : cntN l a.toNat = cntN l b + 1 := by rw [← hcb, hb2, cntN, if_pos hfd]
      have e1 : ((begN l a.toNat : Int) - 1).toNat = b := by omega
      rw [e1, wrap_in _ (by omega) (by omega), ec]
      simp
  | d + 1, k + 1, i, hb, hi, hd, hk => by
    by_cases c : i < a
    · simp only [exegetelaw04_LinesLine.l0]
      have hn := begN_none l a.toNat i.toNat (by omega) (by omega)
      rw [show ((i.toNat : Nat) : Int) = i by omega] at hn
      rw [if_pos c, if_pos (by omega), if_pos (by omega), if_neg hn, wrap_in _ (by omega) (by omega)]
      exact line_l0 l hs a h0 h1 hl d k (i + 1) (by omega) (by omega) (by omega) (by omega)
    · exact line_l0 l hs a h0 h1 hl 0 (k + 1) i hb hi (by omega) (by omega)
termination_by d => d
theorem LinesLine : exegetelaw04_LinesLine.Pure := by
  intro l a hm hm1 hw ha
  have hs := Bytes.of_wf hw
  refine ⟨1000, ?_⟩
  unfold exegetelaw04_LinesLine.f
  rw [awake_f 1000 (by omega)]
  simp only [Option.bind_some, if_true]
  by_cases c1 : (l.length : Int) > 300
  · rw [if_pos c1]; simp [exegetelaw04_LinesLine.j0]
  · rw [if_neg c1]
    by_cases c2 : a < 0
    · rw [if_pos c2]; simp [exegetelaw04_LinesLine.j0]
    · rw [if_neg c2]
      by_cases c3 : a > (l.length : Int)
      · rw [decide_eq_true c3]; simp [exegetelaw04_LinesLine.j0]
      · rw [decide_eq_false c3]
        simp only [exegetelaw04_LinesLine.j0, Bool.false_eq_true, if_false]
        have hbl := begN_le l a.toNat
        have hbb := begN_beg l a.toNat
        have hcb := cntN_beg l a.toNat
        rw [begin_f l (by omega) 999 (by omega) a, if_pos (by omega)]
        simp only [Option.bind_some]
        rw [if_neg (by omega), if_neg (by omega)]
        have hrest : ((lines_Begin.f 999 l (begN l a.toNat : Int)).bind fun t => (if t = (begN l a.toNat : Int) then ((lines_Line.f l (begN l a.toNat : Int)).bind fun u => ((lines_Line.f l a).bind fun v => (exegetelaw04_LinesLine.j1 999 l a (begN l a.toNat) (u != v)))) else (exegetelaw04_LinesLine.j1 999 l a (begN l a.toNat) true))) = some true := by
          rw [begin_f l (by omega) 999 (by omega) _, if_pos (by omega)]
          simp only [Option.bind_some, Int.toNat_natCast, hbb, if_true]
          rw [line_f, if_pos (by omega), line_f, if_pos (by omega)]
          simp only [Option.bind_some, Int.toNat_natCast, hcb]
          simp only [exegetelaw04_LinesLine.j1, bne_self_eq_false, Bool.false_eq_true, if_false]
          exact line_l0 l hs a (by omega) (by omega) (by omega) a.toNat 998 _ (Int.le_refl _) (by omega) (by omega) (by omega)
        by_cases cs : (begN l a.toNat : Int) > 0
        · have hfd := begN_feed l a.toNat (by omega)
          rw [if_pos cs, wrap_in _ (by omega) (by omega), if_pos (by omega), if_pos (by omega)]
          rw [show ((begN l a.toNat - 1 : Nat) : Int) = (begN l a.toNat : Int) - 1 by omega] at hfd
          rw [if_pos hfd]
          exact hrest
        · rw [if_neg cs]
          exact hrest
end Go.Proofs.YtahabdogohdjeaaDoor.Pure
