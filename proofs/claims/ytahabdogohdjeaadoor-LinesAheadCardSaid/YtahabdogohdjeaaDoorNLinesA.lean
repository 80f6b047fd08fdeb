/- Lines and columns, in plain words: what the printed functions tell, for every list of bytes. -/
import Derived.Test.YtahabdogohdjeaaDoorAllx1
import Derived.Test.YtahabdogohdjeaaDoorAllx3
import Derived.Test.YtahabdogohdjeaaDoorAllx4
import Derived.Test.YtahabdogohdjeaaDoorNUtfR
namespace Go.Proofs.YtahabdogohdjeaaDoor.Pure
set_option linter.unusedVariables false
set_option linter.unusedSimpArgs false
set_option linter.unnecessarySimpa false
open Go.RowKit Go.Proofs.YtahabdogohdjeaaDoor.All Go.Proofs.YtahabdogohdjeaaDoorW.PrintWords Go.Proofs.YtahabdogohdjeaaDoorW.PrintLast
theorem awake_f (k : Nat) (hk : 20 ≤ k) : exegetelaw04_awake.f k = some true := by
  unfold exegetelaw04_awake.f; rw [if_pos hk]
/-- Where the line of a place begins. -/
def begN (l : List Int) : Nat → Nat
  | 0 => 0
  | a + 1 => if rd l (a : Int) = 10 then a + 1 else begN l a
/-- How many line feeds are ahead of a place. -/
def cntN (l : List Int) : Nat → Nat
  | 0 => 0
  | a + 1 => cntN l a + (if rd l (a : Int) = 10 then 1 else 0)
theorem rd_take (l : List Int) (a b : Nat) (h : b < a) : rd (l.take a) (b : Int) = rd l (b : Int) := by
  simp [rd, List.getElem?_take, h]
theorem begN_take (l : List Int) (a : Nat) : ∀ b, b ≤ a → begN (l.take a) b = begN l b
  | 0, _ => rfl
  | b + 1, h => by
    unfold begN
    rw [rd_take l a b (by omega), begN_take l a b (by omega)]
theorem begN_le (l : List Int) : ∀ a, begN l a ≤ a
  | 0 => Nat.le_refl _
  | a + 1 => by
    have := begN_le l a
    unfold begN; split <;> omega
theorem begN_none (l : List Int) : ∀ a k, begN l a ≤ k → k < a → rd l (k : Int) ≠ 10
  | 0, _, _, h => by omega
  | a + 1, k, h, h1 => by
    unfold begN at h
    split at h
    · omega
    · by_cases e : k = a
      · subst e; assumption
      · exact begN_none l a k h (by omega)
theorem begN_feed (l : List Int) : ∀ a, 0 < begN l a → rd l ((begN l a - 1 : Nat) : Int) = 10
  | 0, h => by simp [begN] at h
  | a + 1, h => by
    unfold begN at h ⊢
    split
    · next c => simpa using c
    · next c => rw [if_neg c] at h; exact begN_feed l a h
theorem begN_beg (l : List Int) : ∀ a, begN l (begN l a) = begN l a
  | 0 => rfl
  | a + 1 => by
    by_cases c : rd l (a : Int) = 10
    · have e : begN l (a + 1) = a + 1 := by rw [begN, if_pos c]
      rw [e, e]
    · have e : begN l (a + 1) = begN l a := by rw [begN, if_neg c]
      rw [e]; exact begN_beg l a
theorem cntN_beg (l : List Int) : ∀ a, cntN l (begN l a) = cntN l a
  | 0 => rfl
  | a + 1 => by
    by_cases c : rd l (a : Int) = 10
    · have e : begN l (a + 1) = a + 1 := by rw [begN, if_pos c]
      rw [e]
    · have e : begN l (a + 1) = begN l a := by rw [begN, if_neg c]
      rw [e, cntN_beg l a, cntN, if_neg c]; omega
theorem cntN_le (l : List Int) : ∀ a, cntN l a ≤ a
  | 0 => Nat.le_refl _
  | a + 1 => by have := cntN_le l a; unfold cntN; split <;> omega

theorem place_f (l : List Int) (a : Int) : lines_place.f l a = some (decide (0 ≤ a) && decide (a ≤ (l.length : Int))) := by
  unfold lines_place.f
  by_cases c : a ≥ 0
  · rw [if_pos c, decide_eq_true (show 0 ≤ a from c)]; simp
  · rw [if_neg c, decide_eq_false (show ¬ 0 ≤ a from c)]; simp
theorem last_l0 (l : List Int) (hl : l.length ≤ 140737488355328) : ∀ (a k : Nat), a ≤ l.length → a < k → bytealg_LastIndexByte.l0 k l 10 ((a : Int) - 1) = some ((begN l a : Int) - 1)
  | a, 0, _, h => by omega
  | 0, k + 1, _, _ => by
    simp only [bytealg_LastIndexByte.l0]
    rw [if_neg (by omega)]
    rfl
  | a + 1, k + 1, ha, hk => by
    simp only [bytealg_LastIndexByte.l0]
    have e : (((a + 1 : Nat) : Int) - 1) = (a : Int) := by omega
    rw [e, if_pos (by omega), if_pos (by omega), if_pos (by omega)]
    by_cases c : rd l (a : Int) = 10
    · rw [if_pos c, begN, if_pos c]; congr 1; omega
    · rw [if_neg c, begN, if_neg c, wrap_in _ (by omega) (by omega)]
      exact last_l0 l hl a k (by omega) (by omega)
/-- lines.Begin. -/
theorem begin_f (l : List Int) (hl : l.length ≤ 140737488355328) (k : Nat) (hk : l.length < k) (a : Int) :
    lines_Begin.f k l a = if 0 ≤ a ∧ a ≤ (l.length : Int) then some (begN l a.toNat : Int) else some (-1) := by
  unfold lines_Begin.f
  rw [place_f]
  simp only [Option.bind_some]
  by_cases h : 0 ≤ a ∧ a ≤ (l.length : Int)
  · rw [if_pos h, decide_eq_true h.1, decide_eq_true h.2]
    rw [Bool.and_self, if_pos rfl, if_pos h.1, if_pos h.2]
    unfold bytes_LastIndexByte.f bytealg_LastIndexByte.f
    have e : (l.take a.toNat).length = a.toNat := by rw [List.length_take]; omega
    rw [wrap_in _ (by omega) (by omega)]
    have := last_l0 (l.take a.toNat) (by omega) a.toNat k (by omega) (by omega)
    rw [e, this, begN_take l _ _ (Nat.le_refl _)]
    have hb := begN_le l a.toNat
    simp only [Option.bind_some]
    rw [wrap_in _ (by omega) (by omega)]
    congr 1; omega
  · rw [if_neg h]
    have : (decide (0 ≤ a) && decide (a ≤ (l.length : Int))) = false := by
      rw [Bool.and_eq_false_iff, decide_eq_false_iff_not, decide_eq_false_iff_not]; omega
    rw [this, if_neg (by decide)]
theorem feeds_append : ∀ (xs ys : List Int) (i : Int), Own.feedsFrom i (xs ++ ys) = Own.feedsFrom i xs ++ Own.feedsFrom (i + xs.length) ys
  | [], ys, i => by simp [Own.feedsFrom]
  | c :: t, ys, i => by
    have ih := feeds_append t ys (i + 1)
    have e : i + ((c :: t).length : Int) = i + 1 + (t.length : Int) := by rw [List.length_cons]; omega
    rw [List.cons_append, Own.feedsFrom, Own.feedsFrom, e, ih]
    split
    · rfl
    · rfl
theorem take_rd (l : List Int) (a : Nat) (h : a < l.length) : l.take (a + 1) = l.take a ++ [rd l (a : Int)] := by
  rw [List.take_add_one, List.getElem?_eq_getElem h]
  simp [rd, List.getElem?_eq_getElem h]
theorem feeds_cnt (l : List Int) : ∀ a, a ≤ l.length → (Own.feedsFrom 0 (l.take a)).length = cntN l a
  | 0, _ => by simp [Own.feedsFrom, cntN]
  | a + 1, h => by
    rw [take_rd l a (by omega), feeds_append, List.length_append, feeds_cnt l a (by omega), cntN]
    unfold Own.feedsFrom
    split <;> simp [Own.feedsFrom]
/-- lines.Line. -/
theorem line_f (l : List Int) (a : Int) : lines_Line.f l a = if 0 ≤ a ∧ a ≤ (l.length : Int) then some (cntN l a.toNat : Int) else some (-1) := by
  unfold lines_Line.f
  by_cases h : 0 ≤ a ∧ a ≤ (l.length : Int)
  · rw [if_pos h, if_pos (by simpa using h), feeds_cnt l _ (by omega)]
  · rw [if_neg h, if_neg (by simpa using h)]
theorem first_step (l : List Int) (a : Int) (h0 : 0 ≤ a) (h1 : a < (l.length : Int)) : Own.firstOf l a = if Own.blankB (rd l a) = true then Own.firstOf l (a + 1) else a := by
  unfold Own.firstOf
  rw [drop_rd l a h0 h1, List.dropWhile_cons]
  have e : (a + 1).toNat = a.toNat + 1 := by omega
  by_cases c : Own.blankB (rd l a) = true
  · rw [if_pos c, if_pos c, e]
  · rw [if_neg c, if_neg c, List.length_cons, List.length_drop]; omega
theorem first_end (l : List Int) (a : Int) (h : (l.length : Int) ≤ a) : Own.firstOf l a = (l.length : Int) := by
  unfold Own.firstOf
  rw [List.drop_eq_nil_of_le (by omega)]; simp
theorem bytesB_of {l : List Int} (h : Bytes l) : Own.bytesB l = true := by
  unfold Own.bytesB
  rw [List.all_eq_true]
  intro x hx
  have := h x hx
  simp; omega
/-- lines.First. -/
theorem first_f (l : List Int) (hs : Bytes l) (a : Int) : lines_First.f l a = if 0 ≤ a ∧ a ≤ (l.length : Int) then some (Own.firstOf l a) else some (-1) := by
  unfold lines_First.f
  by_cases h : 0 ≤ a ∧ a ≤ (l.length : Int)
  · rw [if_pos h, if_pos (by simpa using h), if_pos (bytesB_of hs)]
  · rw [if_neg h, if_neg (by simpa using h)]
theorem ends_f (l : List Int) (hl : l.length ≤ 1000) : lines_Ends.f l = some (Own.endsOf l) := by
  unfold lines_Ends.f; rw [if_pos (by omega)]
theorem next_n (l : List Int) (hs : Bytes l) (i : Int) (h0 : 0 ≤ i) (h1 : i < (l.length : Int)) : 1 ≤ (nextOf l i).2 ∧ (nextOf l i).2 ≤ 4 ∧ i + (nextOf l i).2 ≤ (l.length : Int) := by
  rw [next_in l i h0 h1]
  have hne : l.drop i.toNat ≠ [] := by
    intro e
    have := List.drop_eq_nil_iff.mp e
    omega
  have hl := next_len _ (hs.drop i.toNat) hne
  rw [List.length_drop] at hl
  omega
/-- The column behind a unit. -/
def stepC (l : List Int) (tab col i : Int) : Int := if rd l i = 9 then col + (tab - col % tab) else col + 1
/-- The column of a place, from a place and a column on. -/
def colF : Nat → List Int → Int → Int → Int → Int → Int
  | 0, _, _, _, col, _ => col
  | d + 1, l, at', tab, col, i => if i < at' then (if i + (nextOf l i).2 > at' then col else colF d l at' tab (stepC l tab col i) (i + (nextOf l i).2)) else col
def colOf (l : List Int) (a tab : Int) : Int := colF a.toNat l a tab 0 (begN l a.toNat)
theorem stepC_in (l : List Int) (tab col i : Int) (ht : 1 ≤ tab ∧ tab ≤ 16) (h0 : 0 ≤ col) : col < stepC l tab col i ∧ stepC l tab col i ≤ col + tab := by
  unfold stepC
  have h1 := Int.emod_nonneg col (show tab ≠ 0 by omega)
  have h2 := Int.emod_lt_of_pos col (show 0 < tab by omega)
  split <;> omega
theorem col_l0 (l : List Int) (hs : Bytes l) (hl : l.length ≤ 140737488355328) (a tab : Int) (ha : a ≤ (l.length : Int)) (ht : 1 ≤ tab ∧ tab ≤ 16) :
    ∀ (d k : Nat) (col i : Int), 0 ≤ i → a - i ≤ d → d < k → 0 ≤ col → col + 16 * d ≤ 4503599627370496 → lines_Col.l0 k l a tab col i = some (colF d l a tab col i)
  | d, 0, _, _, _, _, h, _, _ => by omega
  | 0, k + 1, col, i, h0, hd, _, _, _ => by
    simp only [lines_Col.l0, colF]
    rw [if_neg (by omega)]
  | d + 1, k + 1, col, i, h0, hd, hk, hc, hb => by
    simp only [lines_Col.l0, colF]
    by_cases c : i < a
    · have hn := next_n l hs i h0 (by omega)
      have hm : l.length ≤ maxLen := by unfold maxLen; omega
      have hst := stepC_in l tab col i ht hc
      rw [if_pos c, if_pos c, next_f l i hs hm]
      simp only [Option.bind_some]
      rw [wrap_in _ (by omega) (by omega)]
      by_cases c2 : i + (nextOf l i).2 > a
      · rw [if_pos c2, if_pos c2]
      · rw [if_neg c2, if_neg c2, if_pos h0, if_pos (by omega)]
        have hm1 := Int.emod_nonneg col (show tab ≠ 0 by omega)
        have hm2 := Int.emod_lt_of_pos col (show 0 < tab by omega)
        have e : Int.tmod col tab = col % tab := Int.tmod_eq_emod_of_nonneg hc
        have ih := col_l0 l hs hl a tab ha ht d k (stepC l tab col i) (i + (nextOf l i).2) (by omega) (by omega) (by omega) (by omega) (by omega)
        by_cases c3 : rd l i = 9
        · have es : stepC l tab col i = col + (tab - col % tab) := by unfold stepC; rw [if_pos c3]
          rw [if_pos c3, if_neg (by omega), e, wrap_in (tab - col % tab) (by omega) (by omega), wrap_in _ (by omega) (by omega), ← es]
          exact ih
        · have es : stepC l tab col i = col + 1 := by unfold stepC; rw [if_neg c3]
          rw [if_neg c3, wrap_in _ (by omega) (by omega), ← es]
          exact ih
    · rw [if_neg c, if_neg c]
/-- lines.Col. -/
theorem col_f (l : List Int) (hs : Bytes l) (hl : l.length ≤ 140737488355328) (k : Nat) (hk : l.length + 1 < k) (a tab : Int) :
    lines_Col.f k l a tab = if (0 ≤ a ∧ a ≤ (l.length : Int)) ∧ 1 ≤ tab ∧ tab ≤ 16 then some (colOf l a tab) else some (-1) := by
  obtain ⟨k, rfl⟩ : ∃ m, k = m + 1 := ⟨k - 1, by omega⟩
  unfold lines_Col.f
  rw [place_f]
  simp only [Option.bind_some]
  by_cases h : 0 ≤ a ∧ a ≤ (l.length : Int)
  · rw [decide_eq_true h.1, decide_eq_true h.2, Bool.and_self, if_pos rfl]
    by_cases t1 : tab < 1
    · rw [if_pos t1, if_neg (by omega)]; simp [lines_Col.j0]
    · rw [if_neg t1]
      by_cases t2 : tab > 16
      · rw [decide_eq_true t2, if_neg (by omega)]; simp [lines_Col.j0]
      · rw [decide_eq_false t2, if_pos (by omega)]
        simp only [lines_Col.j0, Bool.false_eq_true, if_false]
        rw [begin_f l hl k (by omega) a, if_pos h]
        simp only [Option.bind_some]
        have hb := begN_le l a.toNat
        exact col_l0 l hs hl a tab h.2 (by omega) a.toNat k 0 _ (by omega) (by omega) (by omega) (by omega) (by omega)
  · have : (decide (0 ≤ a) && decide (a ≤ (l.length : Int))) = false := by
      rw [Bool.and_eq_false_iff, decide_eq_false_iff_not, decide_eq_false_iff_not]; omega
    rw [this, if_neg (by decide), if_neg (by omega)]
    simp [lines_Col.j0]
end Go.Proofs.YtahabdogohdjeaaDoor.Pure
