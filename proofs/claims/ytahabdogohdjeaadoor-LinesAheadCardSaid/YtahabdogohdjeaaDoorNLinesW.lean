/- Walks from unit to unit, for every list of bytes: plain facts. -/
import Derived.Test.YtahabdogohdjeaaDoorNLinesA
namespace Go.Proofs.YtahabdogohdjeaaDoor.Pure
set_option linter.unusedVariables false
set_option linter.unusedSimpArgs false
set_option linter.unnecessarySimpa false
open Go.RowKit Go.Proofs.YtahabdogohdjeaaDoor.All Go.Proofs.YtahabdogohdjeaaDoorW.PrintWords Go.Proofs.YtahabdogohdjeaaDoorW.PrintLast
theorem rd_dropW (l : List Int) (p j : Nat) : rd (l.drop p) (j : Int) = rd l ((p + j : Nat) : Int) := by
  simp only [rd, Int.toNat_natCast]
  rw [List.getD_eq_getElem?_getD, List.getD_eq_getElem?_getD, List.getElem?_drop]
theorem unit_tail (l : List Int) (hs : Bytes l) (i : Int) (h0 : 0 ≤ i) (h1 : i < (l.length : Int)) (j : Int) (hj : i < j) (hj2 : j < i + (nextOf l i).2) : 128 ≤ rd l j := by
  rw [next_in l i h0 h1] at hj2
  rcases next_fst (l.drop i.toNat) (hs.drop _) with ⟨_, h⟩ | ⟨hm, hp, hz⟩
  · omega
  · obtain ⟨a, t, e, _⟩ := put_head hm
    have ht := put_tail hm a t e
    have hln := put_len (nextS (l.drop i.toNat)).1
    rw [e, List.length_cons] at hln
    obtain ⟨u, hu⟩ := hp
    obtain ⟨q, hq⟩ : ∃ q : Nat, j = ((i.toNat + (q + 1) : Nat) : Int) := ⟨(j - i).toNat - 1, by omega⟩
    have hr := rd_dropW l i.toNat (q + 1)
    rw [← hq, ← hu, e] at hr
    have hqt : q < t.length := by omega
    have e2 : rd (a :: t ++ u) ((q + 1 : Nat) : Int) = t[q] := by
      simp only [rd, Int.toNat_natCast, List.cons_append, List.getD_cons_succ]
      rw [List.getD_eq_getElem?_getD, List.getElem?_append_left hqt, List.getElem?_eq_getElem hqt]; rfl
    rw [e2] at hr
    rw [← hr]
    exact (ht _ (List.getElem_mem hqt)).1
theorem unit_ascii (l : List Int) (hs : Bytes l) (i : Int) (h0 : 0 ≤ i) (h1 : i < (l.length : Int)) (h : rd l i < 128) : (nextOf l i).2 = 1 := by
  rw [next_in l i h0 h1]
  have hd := drop_rd l i h0 h1
  have hb := hs.drop i.toNat
  rw [hd] at hb ⊢
  rw [next_ascii _ _ hb h]
/-- The fuel does not matter. -/
theorem colF_fuel (l : List Int) (hs : Bytes l) (a tab : Int) (ha : a ≤ (l.length : Int)) : ∀ (d d' : Nat) (col i : Int), 0 ≤ i → a - i ≤ d → a - i ≤ d' → colF d l a tab col i = colF d' l a tab col i
  | 0, 0, _, _, _, _, _ => rfl
  | 0, d' + 1, col, i, h0, h, _ => by unfold colF; rw [if_neg (by omega)]
  | d + 1, 0, col, i, h0, _, h => by unfold colF; rw [if_neg (by omega)]
  | d + 1, d' + 1, col, i, h0, h, h' => by
    unfold colF
    by_cases c : i < a
    · have hn := next_n l hs i h0 (by omega)
      rw [if_pos c, if_pos c]
      by_cases c2 : i + (nextOf l i).2 > a
      · rw [if_pos c2, if_pos c2]
      · rw [if_neg c2, if_neg c2]
        exact colF_fuel l hs a tab ha d d' _ _ (by omega) (by omega) (by omega)
    · rw [if_neg c, if_neg c]
/-- Unit by unit from a place to a place. -/
inductive Hit (l : List Int) (a : Int) : Int → Prop
  | here : Hit l a a
  | step (i : Int) : 0 ≤ i → i < (l.length : Int) → Hit l a (i + (nextOf l i).2) → Hit l a i
theorem Hit.le {l : List Int} (hs : Bytes l) {a i : Int} (h : Hit l a i) : i ≤ a := by
  induction h with
  | here => exact Int.le_refl _
  | step i h0 h1 _ ih => have := next_n l hs i h0 h1; omega
theorem Hit.snoc {l : List Int} {a i : Int} (h : Hit l a i) (h0 : 0 ≤ a) (h1 : a < (l.length : Int)) : Hit l (a + (nextOf l a).2) i := by
  induction h with
  | here => exact .step a h0 h1 .here
  | step i g0 g1 _ ih => exact .step i g0 g1 ih
/-- A place behind a line feed is met. -/
theorem Hit.mid {l : List Int} (hs : Bytes l) {a i : Int} (h : Hit l a i) : ∀ s : Int, i ≤ s → s ≤ a → (s = i ∨ rd l (s - 1) = 10) → Hit l a s := by
  induction h with
  | here => intro s h1 h2 _; obtain rfl : s = a := by omega
            exact .here
  | step i h0 h1 hr ih =>
    intro s h2 h3 h4
    have hn := next_n l hs i h0 h1
    by_cases e : s = i
    · subst e; exact .step s h0 h1 hr
    · have hf : rd l (s - 1) = 10 := h4.resolve_left e
      by_cases c : i + (nextOf l i).2 ≤ s
      · exact ih s c h3 (.inr hf)
      · exfalso
        by_cases c2 : s - 1 = i
        · have := unit_ascii l hs i h0 h1 (by rw [← c2, hf]; decide)
          omega
        · have := unit_tail l hs i h0 h1 (s - 1) (by omega) (by omega)
          omega
/-- The column goes on from where it has been. -/
theorem colF_hit {l : List Int} (hs : Bytes l) {a i : Int} (h : Hit l a i) (tab b : Int) (hab : a ≤ b) (hb : b ≤ (l.length : Int)) : ∀ (d : Nat) (col : Int), 0 ≤ i → b - i ≤ d → colF d l b tab col i = colF d l b tab (colF d l a tab col i) a := by
  induction h with
  | here =>
    intro d col h0 hd
    have : colF d l a tab col a = col := by
      cases d with
      | zero => rfl
      | succ d => unfold colF; rw [if_neg (by omega)]
    rw [this]
  | step i h0 h1 hr ih =>
    intro d col _ hd
    have hn := next_n l hs i h0 h1
    have hle := hr.le hs
    cases d with
    | zero => omega
    | succ d =>
      have e1 : colF (d + 1) l b tab col i = colF d l b tab (stepC l tab col i) (i + (nextOf l i).2) := by
        rw [colF, if_pos (by omega), if_neg (by omega)]
      have e2 : colF (d + 1) l a tab col i = colF d l a tab (stepC l tab col i) (i + (nextOf l i).2) := by
        rw [colF, if_pos (by omega), if_neg (by omega)]
      rw [e1, e2, ih d _ (by omega) (by omega)]
      exact colF_fuel l hs b tab hb _ _ _ _ (by omega) (by omega) (by omega)
theorem begN_stay (l : List Int) : ∀ (m a : Nat), (∀ j : Nat, a ≤ j → j < a + m → rd l (j : Int) ≠ 10) → begN l (a + m) = begN l a
  | 0, a, _ => rfl
  | m + 1, a, h => by
    rw [← Nat.add_assoc, begN, if_neg (h (a + m) (by omega) (by omega))]
    exact begN_stay l m a (fun j h1 h2 => h j h1 (by omega))
end Go.Proofs.YtahabdogohdjeaaDoor.Pure
