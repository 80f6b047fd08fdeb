/- Of the law LinesTabs: for every list of bytes, every place and every tab it tells true. -/
import Derived.Test.YtahabdogohdjeaaDoorAllx14
import Derived.Test.YtahabdogohdjeaaDoorNLinesW
namespace Go.Proofs.YtahabdogohdjeaaDoor.Pure
set_option linter.unusedVariables false
set_option linter.unusedSimpArgs false
set_option linter.unnecessarySimpa false
open Go.RowKit Go.Proofs.YtahabdogohdjeaaDoor.All Go.Proofs.YtahabdogohdjeaaDoorW.PrintWords Go.Proofs.YtahabdogohdjeaaDoorW.PrintLast
/-- How many tab stops stand in so many bytes from a place on. -/
def t9 (l : List Int) : Nat → Int → Int
  | 0, _ => 0
  | d + 1, i => (if rd l i = 9 then 1 else 0) + t9 l d (i + 1)
theorem t9_nonneg (l : List Int) : ∀ (d : Nat) (i : Int), 0 ≤ t9 l d i ∧ t9 l d i ≤ d
  | 0, _ => by simp [t9]
  | d + 1, i => by have := t9_nonneg l d (i + 1); unfold t9; split <;> omega
theorem t9_split (l : List Int) : ∀ (m r : Nat) (i : Int), t9 l (m + r) i = t9 l m i + t9 l r (i + m)
  | 0, r, i => by simp [t9]
  | m + 1, r, i => by
    rw [show m + 1 + r = (m + r) + 1 by omega, t9, t9, t9_split l m r (i + 1), show i + 1 + (m : Int) = i + ((m + 1 : Nat) : Int) by omega]; omega
theorem col_tabs (l : List Int) (hs : Bytes l) (a tab : Int) (ha : a ≤ (l.length : Int)) (ht : 1 ≤ tab ∧ tab ≤ 16) :
    ∀ (d : Nat) (c1 ct i : Int), 0 ≤ i → i ≤ a → a - i ≤ d → 0 ≤ c1 → 0 ≤ ct →
      (colF d l a 1 c1 i - c1 ≤ colF d l a tab ct i - ct ∧ colF d l a tab ct i - ct ≤ colF d l a 1 c1 i - c1 + t9 l (a - i).toNat i * (tab - 1)) ∧ (t9 l (a - i).toNat i = 0 → colF d l a tab ct i - ct = colF d l a 1 c1 i - c1)
  | 0, c1, ct, i, h0, h1, hd, _, _ => by
    have e : (a - i).toNat = 0 := by omega
    rw [e]; simp only [colF, t9]; omega
  | d + 1, c1, ct, i, h0, h1, hd, g1, gt => by
    have hT := t9_nonneg l (a - i).toNat i
    have hpos : 0 ≤ t9 l (a - i).toNat i * (tab - 1) := Int.mul_nonneg hT.1 (by omega)
    by_cases c : i < a
    · have hn := next_n l hs i h0 (by omega)
      by_cases c2 : i + (nextOf l i).2 > a
      · have e1 : colF (d + 1) l a 1 c1 i = c1 := by rw [colF, if_pos c, if_pos c2]
        have e2 : colF (d + 1) l a tab ct i = ct := by rw [colF, if_pos c, if_pos c2]
        rw [e1, e2]; omega
      · have e1 : colF (d + 1) l a 1 c1 i = colF d l a 1 (stepC l 1 c1 i) (i + (nextOf l i).2) := by rw [colF, if_pos c, if_neg c2]
        have e2 : colF (d + 1) l a tab ct i = colF d l a tab (stepC l tab ct i) (i + (nextOf l i).2) := by rw [colF, if_pos c, if_neg c2]
        have s1 := stepC_in l 1 c1 i (by omega) g1
        have st := stepC_in l tab ct i ht gt
        have ih := col_tabs l hs a tab ha ht d (stepC l 1 c1 i) (stepC l tab ct i) (i + (nextOf l i).2) (by omega) (by omega) (by omega) (by omega) (by omega)
        obtain ⟨m, hm⟩ : ∃ m : Nat, (nextOf l i).2 = ((m + 1 : Nat) : Int) := ⟨(nextOf l i).2.toNat - 1, by omega⟩
        have hsp := t9_split l (m + 1) (a - (i + (nextOf l i).2)).toNat i
        rw [show m + 1 + (a - (i + (nextOf l i).2)).toNat = (a - i).toNat by omega, ← hm] at hsp
        have hb : t9 l (m + 1) i = (if rd l i = 9 then 1 else 0) + t9 l m (i + 1) := rfl
        have hm0 := t9_nonneg l m (i + 1)
        have hT2 := t9_nonneg l (a - (i + (nextOf l i).2)).toNat (i + (nextOf l i).2)
        rw [e1, e2]
        generalize t9 l (a - (i + (nextOf l i).2)).toNat (i + (nextOf l i).2) = T2 at *
        generalize t9 l (a - i).toNat i = T at *
        by_cases c9 : rd l i = 9
        · rw [if_pos c9] at hb
          have hTT : (1 + T2) * (tab - 1) ≤ T * (tab - 1) := Int.mul_le_mul_of_nonneg_right (by omega) (by omega)
          rw [Int.add_mul, Int.one_mul] at hTT
          have x1 : stepC l 1 c1 i = c1 + 1 := by omega
          omega
        · rw [if_neg c9] at hb
          have hTT : T2 * (tab - 1) ≤ T * (tab - 1) := Int.mul_le_mul_of_nonneg_right (by omega) (by omega)
          have x1 : stepC l 1 c1 i = c1 + 1 := by unfold stepC; rw [if_neg c9]
          have x2 : stepC l tab ct i = ct + 1 := by unfold stepC; rw [if_neg c9]
          omega
    · have e1 : colF (d + 1) l a 1 c1 i = c1 := by rw [colF, if_neg c]
      have e2 : colF (d + 1) l a tab ct i = ct := by rw [colF, if_neg c]
      rw [e1, e2]; omega
theorem tabs_l0 (l : List Int) (hl : l.length ≤ 300) (a tab one n : Int) (ha : a ≤ (l.length : Int)) (ht : 1 ≤ tab ∧ tab ≤ 16) (h1 : 0 ≤ one ∧ one ≤ 10000) :
    ∀ (d k : Nat) (x i : Int), 0 ≤ i → i ≤ a → a - i ≤ d → 2 * d + 3 ≤ k → 0 ≤ x → x + (a - i) ≤ 1000 → one ≤ n → n ≤ one + (x + t9 l (a - i).toNat i) * (tab - 1) → (x + t9 l (a - i).toNat i = 0 → n = one) →
    exegetelaw04_LinesTabs.l0 k l a tab one n x i = some true
  | d, 0, _, _, _, _, _, h, _, _, _, _, _ => by omega
  | d, 1, _, _, _, _, _, h, _, _, _, _, _ => by omega
  | d, k + 2, x, i, h0, hi, hd, hk, hx, hx2, g1, g2, g3 => by
    simp only [exegetelaw04_LinesTabs.l0, exegetelaw04_LinesTabs.j2]
    rw [if_pos h0]
    by_cases c : i < a
    · obtain ⟨d, rfl⟩ : ∃ e, d = e + 1 := ⟨d - 1, by omega⟩
      have e : (a - i).toNat = (a - (i + 1)).toNat + 1 := by omega
      rw [e, t9] at g2 g3
      rw [decide_eq_true c, if_pos rfl, if_pos h0, if_pos (by omega)]
      by_cases c9 : rd l i = 9
      · rw [if_pos c9] at g2 g3
        rw [if_pos c9, wrap_in _ (by omega) (by omega), wrap_in _ (by omega) (by omega)]
        exact tabs_l0 l hl a tab one n ha ht h1 d k (x + 1) (i + 1) (by omega) (by omega) (by omega) (by omega) (by omega) (by omega) g1 (by rw [show x + 1 + t9 l (a - (i + 1)).toNat (i + 1) = x + (1 + t9 l (a - (i + 1)).toNat (i + 1)) by omega]; exact g2) (fun h => g3 (by omega))
      · rw [if_neg c9, Int.zero_add] at g2 g3
        rw [if_neg c9, wrap_in _ (by omega) (by omega)]
        exact tabs_l0 l hl a tab one n ha ht h1 d k x (i + 1) (by omega) (by omega) (by omega) (by omega) (by omega) (by omega) g1 g2 g3
    · have e : (a - i).toNat = 0 := by omega
      rw [e, t9, Int.add_zero] at g2 g3
      have hm0 : 0 ≤ x * (tab - 1) := Int.mul_nonneg hx (by omega)
      have hm1 : x * (tab - 1) ≤ x * 15 := Int.mul_le_mul_of_nonneg_left (by omega) hx
      rw [decide_eq_false c, if_neg (by decide), if_pos g1, wrap_in (tab - 1) (by omega) (by omega), wrap_in (x * _) (by omega) (by omega), wrap_in _ (by omega) (by omega), if_pos g2]
      by_cases cx : x > 0
      · rw [if_pos cx]
      · rw [if_neg cx, g3 (by omega)]; simp
termination_by d => d
theorem col_big (l : List Int) (hs : Bytes l) (a tab : Int) (ha : a ≤ (l.length : Int)) (ht : 1 ≤ tab ∧ tab ≤ 16) :
    ∀ (d : Nat) (col i : Int), 0 ≤ i → i ≤ a → 0 ≤ col → col ≤ colF d l a tab col i ∧ colF d l a tab col i ≤ col + 16 * (a - i)
  | 0, col, i, h0, h1, hc => by unfold colF; omega
  | d + 1, col, i, h0, h1, hc => by
    unfold colF
    by_cases c : i < a
    · have hn := next_n l hs i h0 (by omega)
      rw [if_pos c]
      by_cases c2 : i + (nextOf l i).2 > a
      · rw [if_pos c2]; omega
      · rw [if_neg c2]
        have hst := stepC_in l tab col i ht hc
        have ih := col_big l hs a tab ha ht d (stepC l tab col i) (i + (nextOf l i).2) (by omega) (by omega) (by omega)
        omega
    · rw [if_neg c]; omega
theorem LinesTabs : exegetelaw04_LinesTabs.Pure := by
  intro l a tab hm hm1 hw ha ht
  have hs := Bytes.of_wf hw
  refine ⟨3000, ?_⟩
  unfold exegetelaw04_LinesTabs.f
  rw [awake_f 3000 (by omega)]
  simp only [Option.bind_some, if_true]
  by_cases c1 : (l.length : Int) > 300
  · rw [if_pos c1]; simp [exegetelaw04_LinesTabs.j0]
  · rw [if_neg c1]
    by_cases c2 : a < 0
    · rw [if_pos c2]; simp [exegetelaw04_LinesTabs.j0]
    · rw [if_neg c2]
      by_cases c3 : a > (l.length : Int)
      · rw [if_pos c3]; simp [exegetelaw04_LinesTabs.j0]
      · rw [if_neg c3]
        by_cases c4 : tab < 1
        · rw [if_pos c4]; simp [exegetelaw04_LinesTabs.j0]
        · rw [if_neg c4]
          by_cases c5 : tab > 16
          · rw [decide_eq_true c5]; simp [exegetelaw04_LinesTabs.j0]
          · rw [decide_eq_false c5]
            simp only [exegetelaw04_LinesTabs.j0, Bool.false_eq_true, if_false]
            rw [col_f l hs (by omega) 2999 (by omega) a 1, if_pos (by omega), col_f l hs (by omega) 2999 (by omega) a tab, if_pos (by omega), begin_f l (by omega) 2999 (by omega) a, if_pos (by omega)]
            simp only [Option.bind_some]
            have hb := begN_le l a.toNat
            have h1 := col_tabs l hs a tab (by omega) (by omega) a.toNat 0 0 (begN l a.toNat) (by omega) (by omega) (by omega) (by omega) (by omega)
            have h2 := col_big l hs a 1 (by omega) (by omega) a.toNat 0 (begN l a.toNat) (by omega) (by omega) (by omega)
            change (colOf l a 1 - 0 ≤ colOf l a tab - 0 ∧ colOf l a tab - 0 ≤ colOf l a 1 - 0 + t9 l (a - (begN l a.toNat : Int)).toNat (begN l a.toNat) * (tab - 1)) ∧ (t9 l (a - (begN l a.toNat : Int)).toNat (begN l a.toNat) = 0 → colOf l a tab - 0 = colOf l a 1 - 0) at h1
            change 0 ≤ colOf l a 1 ∧ colOf l a 1 ≤ 0 + 16 * (a - (begN l a.toNat : Int)) at h2
            refine tabs_l0 l (by omega) a tab _ _ (by omega) (by omega) (by omega) 300 2999 0 (begN l a.toNat) (by omega) (by omega) (by omega) (by omega) (by omega) (by omega) (by omega) ?_ ?_
            · rw [Int.zero_add]; omega
            · intro h; have := h1.2 (by omega); omega
end Go.Proofs.YtahabdogohdjeaaDoor.Pure
