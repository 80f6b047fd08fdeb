/- Of the law LinesCol: for every list of bytes, every number of units and every tab it tells true. -/
import Derived.Test.YtahabdogohdjeaaDoorAllx10
import Derived.Test.YtahabdogohdjeaaDoorNLinesW
namespace Go.Proofs.YtahabdogohdjeaaDoor.Pure
set_option linter.unusedVariables false
set_option linter.unusedSimpArgs false
set_option linter.unnecessarySimpa false
open Go.RowKit Go.Proofs.YtahabdogohdjeaaDoor.All Go.Proofs.YtahabdogohdjeaaDoorW.PrintWords Go.Proofs.YtahabdogohdjeaaDoorW.PrintLast
theorem col_end (l : List Int) (hs : Bytes l) (hl : l.length ≤ 300) (many tab : Int) (ht : 1 ≤ tab ∧ tab ≤ 16) (a j : Int) (h0 : 0 ≤ a) (hh : Hit l a 0) (hle : a ≤ (l.length : Int)) (k : Nat) (hk : 400 ≤ k) :
    exegetelaw04_LinesCol.j2 k l many tab a j false = some true := by
  obtain ⟨k, rfl⟩ : ∃ m, k = m + 1 := ⟨k - 1, by omega⟩
  obtain ⟨k, rfl⟩ : ∃ m, k = m + 1 := ⟨k - 1, by omega⟩
  simp only [exegetelaw04_LinesCol.j2, Bool.false_eq_true, if_false]
  by_cases c : a ≥ (l.length : Int)
  · rw [if_pos c, show a = (l.length : Int) by omega]; simp
  · rw [if_neg c]
    have hn := next_n l hs a h0 (by omega)
    have hm : l.length ≤ maxLen := by unfold maxLen; omega
    rw [col_f l hs (by omega) (k + 1) (by omega), if_pos ⟨⟨h0, by omega⟩, ht⟩, next_f l a hs hm]
    simp only [Option.bind_some]
    rw [wrap_in _ (by omega) (by omega), col_f l hs (by omega) (k + 1) (by omega), if_pos ⟨⟨by omega, by omega⟩, ht⟩, begin_f l (by omega) (k + 1) (by omega) a, if_pos ⟨h0, by omega⟩]
    simp only [Option.bind_some]
    have hbl := begN_le l a.toNat
    have hC0 : ∀ b : Nat, begN l b = b → colOf l (b : Int) tab = 0 := by
      intro b hb
      unfold colOf
      rw [Int.toNat_natCast, hb]
      cases b with
      | zero => rfl
      | succ b => unfold colF; rw [if_neg (by omega)]
    have hbase : (begN l a.toNat : Int) = a → colOf l a tab = 0 := fun h => by
      have := hC0 a.toNat (by omega)
      rwa [show ((a.toNat : Nat) : Int) = a by omega] at this
    -- the column behind the unit
    have hlast : exegetelaw04_LinesCol.j3 (k + 1) l tab a (colOf l a tab) (colOf l (a + (nextOf l a).2) tab) false = some true := by
      simp only [exegetelaw04_LinesCol.j3, Bool.false_eq_true, if_false]
      rw [if_pos h0, if_pos (by omega)]
      by_cases c10 : rd l a = 10
      · have h1 := unit_ascii l hs a h0 (by omega) (by rw [c10]; decide)
        have hb2 : begN l (a.toNat + 1) = a.toNat + 1 := by
          rw [begN, show ((a.toNat : Nat) : Int) = a by omega, if_pos c10]
        have := hC0 (a.toNat + 1) hb2
        rw [if_pos c10, h1, show a + 1 = ((a.toNat + 1 : Nat) : Int) by omega, this]; simp
      · rw [if_neg c10]
        have hst : begN l (a + (nextOf l a).2).toNat = begN l a.toNat := by
          have e : (a + (nextOf l a).2).toNat = a.toNat + (nextOf l a).2.toNat := by omega
          rw [e]
          refine begN_stay l _ _ fun j h1 h2 h10 => ?_
          by_cases ej : (j : Int) = a
          · rw [ej] at h10; exact c10 h10
          · have := unit_tail l hs a h0 (by omega) (j : Int) (by omega) (by omega)
            omega
        have hhit : Hit l a (begN l a.toNat) := by
          refine hh.mid hs _ (by omega) (by omega) ?_
          by_cases e0 : begN l a.toNat = 0
          · left; omega
          · right
            have := begN_feed l a.toNat (by omega)
            rwa [show ((begN l a.toNat - 1 : Nat) : Int) = (begN l a.toNat : Int) - 1 by omega] at this
        have hcol : colOf l (a + (nextOf l a).2) tab = stepC l tab (colOf l a tab) a := by
          unfold colOf
          rw [hst, colF_hit hs hhit tab (a + (nextOf l a).2) (by omega) (by omega) _ 0 (by omega) (by omega)]
          rw [colF_fuel l hs a tab (by omega) (a + (nextOf l a).2).toNat a.toNat 0 _ (by omega) (by omega) (by omega)]
          obtain ⟨d, hd⟩ : ∃ d, (a + (nextOf l a).2).toNat = d + 1 := ⟨(a + (nextOf l a).2).toNat - 1, by omega⟩
          rw [hd, colF, if_pos (by omega), if_neg (by omega)]
          cases d with
          | zero => rfl
          | succ d => rw [colF, if_neg (by omega)]
        have hc0 : 0 ≤ colOf l a tab ∧ colOf l a tab ≤ 16 * 300 := by
          have key : ∀ (d : Nat) (col i : Int), 0 ≤ i → i ≤ a → 0 ≤ col → col ≤ colF d l a tab col i ∧ colF d l a tab col i ≤ col + 16 * (a - i) := by
            intro d
            induction d with
            | zero => intro col i _ _ _; unfold colF; omega
            | succ d ih =>
              intro col i g0 g1 g2
              unfold colF
              by_cases c : i < a
              · have hn := next_n l hs i g0 (by omega)
                rw [if_pos c]
                by_cases c2 : i + (nextOf l i).2 > a
                · rw [if_pos c2]; omega
                · rw [if_neg c2]
                  have hst := stepC_in l tab col i ht g2
                  have := ih (stepC l tab col i) (i + (nextOf l i).2) (by omega) (by omega) (by omega)
                  omega
              · rw [if_neg c]; omega
          have := key a.toNat 0 (begN l a.toNat) (by omega) (by omega) (by omega)
          unfold colOf; omega
        rw [hcol]
        have hsi := stepC_in l tab (colOf l a tab) a ht hc0.1
        by_cases c9 : rd l a = 9
        · have es : stepC l tab (colOf l a tab) a = colOf l a tab + (tab - colOf l a tab % tab) := by unfold stepC; rw [if_pos c9]
          have hmod : Int.tmod (stepC l tab (colOf l a tab) a) tab = 0 := by
            rw [Int.tmod_eq_emod_of_nonneg (by omega), es]
            have h1 := Int.emod_add_mul_ediv (colOf l a tab) tab
            have : colOf l a tab + (tab - colOf l a tab % tab) = tab * (colOf l a tab / tab + 1) := by rw [Int.mul_add, Int.mul_one]; omega
            rw [this, Int.mul_emod_right]
          rw [if_pos c9, if_neg (by omega), if_pos hmod, if_pos (by omega), wrap_in _ (by omega) (by omega), decide_eq_true (by omega)]
        · have es : stepC l tab (colOf l a tab) a = colOf l a tab + 1 := by unfold stepC; rw [if_neg c9]
          rw [if_neg c9, wrap_in _ (by omega) (by omega), es]; simp
    by_cases cb : (begN l a.toNat : Int) = a
    · have e0 := hbase cb
      rw [if_pos cb]
      rw [show (colOf l a tab != 0) = false by rw [e0]; rfl]
      exact hlast
    · rw [if_neg cb]; exact hlast
theorem col_loop (l : List Int) (hs : Bytes l) (hl : l.length ≤ 300) (many tab : Int) (ht : 1 ≤ tab ∧ tab ≤ 16) : ∀ (d k : Nat) (a j : Int), 0 ≤ a → Hit l a 0 → a ≤ (l.length : Int) → (l.length : Int) - a ≤ d → 0 ≤ j → j ≤ a → 2 * d + 500 ≤ k →
    exegetelaw04_LinesCol.l0 k l many tab a j = some true
  | d, 0, _, _, _, _, _, _, _, _, h => by omega
  | d, k + 1, a, j, h0, hh, hle, hd, hj, hja, hk => by
    obtain ⟨k, rfl⟩ : ∃ m, k = m + 1 := ⟨k - 1, by omega⟩
    simp only [exegetelaw04_LinesCol.l0]
    by_cases c : j < many
    · rw [if_pos c]
      by_cases c2 : a < (l.length : Int)
      · rw [decide_eq_true c2]
        have hn := next_n l hs a h0 c2
        have hm : l.length ≤ maxLen := by unfold maxLen; omega
        obtain ⟨d, rfl⟩ : ∃ e, d = e + 1 := ⟨d - 1, by omega⟩
        simp only [exegetelaw04_LinesCol.j2, if_true]
        rw [next_f l a hs hm]
        simp only [Option.bind_some]
        rw [if_neg (by omega), wrap_in _ (by omega) (by omega), wrap_in _ (by omega) (by omega)]
        exact col_loop l hs hl many tab ht d k (a + (nextOf l a).2) (j + 1) (by omega) (hh.snoc h0 c2) (by omega) (by omega) (by omega) (by omega) (by omega)
      · rw [decide_eq_false c2]
        exact col_end l hs hl many tab ht a j h0 hh hle (k + 1) (by omega)
    · rw [if_neg c]
      exact col_end l hs hl many tab ht a j h0 hh hle (k + 1) (by omega)
termination_by d => d
theorem LinesCol : exegetelaw04_LinesCol.Pure := by
  intro l a tab hm hm1 hw ha ht
  have hs := Bytes.of_wf hw
  refine ⟨3000, ?_⟩
  unfold exegetelaw04_LinesCol.f
  rw [awake_f 3000 (by omega)]
  simp only [Option.bind_some, if_true]
  by_cases c1 : (l.length : Int) > 300
  · rw [if_pos c1]; simp [exegetelaw04_LinesCol.j0]
  · rw [if_neg c1]
    by_cases c2 : a < 0
    · rw [if_pos c2]; simp [exegetelaw04_LinesCol.j0]
    · rw [if_neg c2]
      by_cases c4 : tab < 1
      · rw [if_pos c4]; simp [exegetelaw04_LinesCol.j0]
      · rw [if_neg c4]
        by_cases c5 : tab > 16
        · rw [decide_eq_true c5]; simp [exegetelaw04_LinesCol.j0]
        · rw [decide_eq_false c5]
          simp only [exegetelaw04_LinesCol.j0, Bool.false_eq_true, if_false]
          exact col_loop l hs (by omega) a tab (by omega) l.length 2999 0 0 (by omega) .here (by omega) (by omega) (by omega) (by omega) (by omega)
end Go.Proofs.YtahabdogohdjeaaDoor.Pure
