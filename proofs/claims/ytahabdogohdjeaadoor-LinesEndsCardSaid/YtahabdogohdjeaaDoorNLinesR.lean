/- The document's answer for lines, in plain words: the same as the program's, for every list of bytes. -/
import Derived.Test.YtahabdogohdjeaaDoorAllx5
import Derived.Test.YtahabdogohdjeaaDoorAllx8
import Derived.Test.YtahabdogohdjeaaDoorAllx4
import Derived.Test.YtahabdogohdjeaaDoorNLinesA
namespace Go.Proofs.YtahabdogohdjeaaDoor.Pure
set_option linter.unusedVariables false
set_option linter.unusedSimpArgs false
set_option linter.unnecessarySimpa false
open Go.RowKit Go.Proofs.YtahabdogohdjeaaDoor.All Go.Proofs.YtahabdogohdjeaaDoorW.PrintWords Go.Proofs.YtahabdogohdjeaaDoorW.PrintLast
theorem rplace_f (l : List Int) (a : Int) : exegeteref04_place.f l a = some (decide (0 ≤ a) && decide (a ≤ (l.length : Int))) := by
  unfold exegeteref04_place.f
  by_cases c : a ≥ 0
  · rw [if_pos c, decide_eq_true (show 0 ≤ a from c)]; simp
  · rw [if_neg c, decide_eq_false (show ¬ 0 ≤ a from c)]; simp
theorem place_no {l : List Int} {a : Int} (h : ¬ (0 ≤ a ∧ a ≤ (l.length : Int))) : (decide (0 ≤ a) && decide (a ≤ (l.length : Int))) = false := by
  rw [Bool.and_eq_false_iff, decide_eq_false_iff_not, decide_eq_false_iff_not]; omega
theorem rbegin_l0 (l : List Int) (hl : l.length ≤ 140737488355328) : ∀ (a k : Nat), a ≤ l.length → a < k → exegeteref04_Begin.l0 k l (a : Int) = some (begN l a : Int)
  | a, 0, _, h => by omega
  | 0, k + 1, _, _ => by
    simp only [exegeteref04_Begin.l0]
    rw [if_neg (by omega)]; rfl
  | a + 1, k + 1, ha, hk => by
    simp only [exegeteref04_Begin.l0]
    have e : (((a + 1 : Nat) : Int) - 1) = (a : Int) := by omega
    rw [if_pos (by omega), e, wrap_in _ (by omega) (by omega), if_pos (by omega), if_pos (by omega)]
    by_cases c : rd l (a : Int) = 10
    · rw [if_pos c, begN, if_pos c]
    · rw [if_neg c, begN, if_neg c]
      exact rbegin_l0 l hl a k (by omega) (by omega)
theorem rbegin_f (l : List Int) (hl : l.length ≤ 140737488355328) (k : Nat) (hk : l.length < k) (a : Int) :
    exegeteref04_Begin.f k l a = if 0 ≤ a ∧ a ≤ (l.length : Int) then some (begN l a.toNat : Int) else some (-1) := by
  unfold exegeteref04_Begin.f
  rw [rplace_f]
  simp only [Option.bind_some]
  by_cases h : 0 ≤ a ∧ a ≤ (l.length : Int)
  · rw [if_pos h, decide_eq_true h.1, decide_eq_true h.2, Bool.and_self, if_pos rfl]
    have := rbegin_l0 l hl a.toNat k (by omega) (by omega)
    rwa [show ((a.toNat : Nat) : Int) = a by omega] at this
  · rw [if_neg h, place_no h, if_neg (by decide)]
theorem rline_l0 (l : List Int) (hl : l.length ≤ 140737488355328) (a : Nat) (ha : a ≤ l.length) : ∀ (d k i : Nat), i + d = a → d < k → ∀ n : Int, 0 ≤ n → n ≤ 140737488355328 + i →
    exegeteref04_Line.l0 k l (a : Int) n (i : Int) = some (n + cntN l a - cntN l i)
  | d, 0, _, _, h, _, _, _ => by omega
  | 0, k + 1, i, h, _, n, _, _ => by
    simp only [exegeteref04_Line.l0]
    obtain rfl : i = a := by omega
    rw [if_neg (by omega)]; congr 1; omega
  | d + 1, k + 1, i, h, hk, n, h0, h1 => by
    simp only [exegeteref04_Line.l0]
    rw [if_pos (by omega), if_pos (by omega), if_pos (by omega), wrap_in _ (by omega) (by omega), wrap_in _ (by omega) (by omega)]
    have e : ((i : Int) + 1) = ((i + 1 : Nat) : Int) := by omega
    by_cases c : rd l (i : Int) = 10
    · rw [if_pos c, e, rline_l0 l hl a ha d k (i + 1) (by omega) (by omega) (n + 1) (by omega) (by omega), cntN, if_pos c]
      congr 1; omega
    · rw [if_neg c, e, rline_l0 l hl a ha d k (i + 1) (by omega) (by omega) n (by omega) (by omega), cntN, if_neg c]
      congr 1
theorem rline_f (l : List Int) (hl : l.length ≤ 140737488355328) (k : Nat) (hk : l.length < k) (a : Int) :
    exegeteref04_Line.f k l a = if 0 ≤ a ∧ a ≤ (l.length : Int) then some (cntN l a.toNat : Int) else some (-1) := by
  unfold exegeteref04_Line.f
  rw [rplace_f]
  simp only [Option.bind_some]
  by_cases h : 0 ≤ a ∧ a ≤ (l.length : Int)
  · rw [if_pos h, decide_eq_true h.1, decide_eq_true h.2, Bool.and_self, if_pos rfl]
    have := rline_l0 l hl a.toNat (by omega) a.toNat k 0 (by omega) (by omega) 0 (by omega) (by omega)
    rw [show ((a.toNat : Nat) : Int) = a by omega] at this
    rw [show (0 : Int) = ((0 : Nat) : Int) from rfl]
    rw [show ((0 : Nat) : Int) = (0 : Int) from rfl] at this ⊢
    rw [this, cntN]; congr 1; omega
  · rw [if_neg h, place_no h, if_neg (by decide)]
theorem blank_iff (c : Int) : Own.blankB c = true ↔ c = 32 ∨ c = 9 ∨ c = 13 := by
  unfold Own.blankB; simp [or_assoc]
theorem rfirst_l0 (l : List Int) (hl : l.length ≤ 140737488355328) : ∀ (d k : Nat) (a : Int), 0 ≤ a → a ≤ (l.length : Int) → (l.length : Int) - a ≤ d → d < k → exegeteref04_First.l0 k l a = some (Own.firstOf l a)
  | d, 0, _, _, _, _, h => by omega
  | 0, k + 1, a, h0, h1, hd, _ => by
    simp only [exegeteref04_First.l0]
    rw [if_neg (by omega), first_end l a (by omega)]; congr 1; omega
  | d + 1, k + 1, a, h0, h1, hd, hk => by
    simp only [exegeteref04_First.l0]
    by_cases c : a < (l.length : Int)
    · rw [if_pos c, if_pos h0, first_step l a h0 c, wrap_in _ (by omega) (by omega)]
      have ih := rfirst_l0 l hl d k (a + 1) (by omega) (by omega) (by omega) (by omega)
      by_cases c1 : rd l a = 32
      · rw [if_pos c1, if_pos ((blank_iff _).mpr (.inl c1))]; exact ih
      · rw [if_neg c1]
        by_cases c2 : rd l a = 9
        · rw [if_pos c2, if_pos ((blank_iff _).mpr (.inr (.inl c2)))]; exact ih
        · rw [if_neg c2]
          by_cases c3 : rd l a = 13
          · rw [if_pos c3, if_pos ((blank_iff _).mpr (.inr (.inr c3)))]; exact ih
          · rw [if_neg c3, if_neg (fun h => by rcases (blank_iff _).mp h with h | h | h <;> contradiction)]
    · rw [if_neg c, first_end l a (by omega)]; congr 1; omega
theorem rfirst_f (l : List Int) (hl : l.length ≤ 140737488355328) (k : Nat) (hk : l.length < k) (a : Int) :
    exegeteref04_First.f k l a = if 0 ≤ a ∧ a ≤ (l.length : Int) then some (Own.firstOf l a) else some (-1) := by
  unfold exegeteref04_First.f
  rw [rplace_f]
  simp only [Option.bind_some]
  by_cases h : 0 ≤ a ∧ a ≤ (l.length : Int)
  · rw [if_pos h, decide_eq_true h.1, decide_eq_true h.2, Bool.and_self, if_pos rfl]
    exact rfirst_l0 l hl l.length k a h.1 h.2 (by omega) (by omega)
  · rw [if_neg h, place_no h, if_neg (by decide)]
theorem rcol_l0 (l : List Int) (hs : Bytes l) (hl : l.length ≤ 140737488355328) (a tab : Int) (ha : a ≤ (l.length : Int)) (ht : 1 ≤ tab ∧ tab ≤ 16) :
    ∀ (d k : Nat) (col i : Int), 0 ≤ i → a - i ≤ d → d + 100 < k → 0 ≤ col → col + 16 * d ≤ 4503599627370496 → exegeteref04_Col.l0 k l a tab col i = some (colF d l a tab col i)
  | d, 0, _, _, _, _, h, _, _ => by omega
  | 0, k + 1, col, i, h0, hd, _, _, _ => by
    simp only [exegeteref04_Col.l0, colF]
    rw [if_neg (by omega)]
  | d + 1, k + 1, col, i, h0, hd, hk, hc, hb => by
    simp only [exegeteref04_Col.l0, colF]
    by_cases c : i < a
    · have hn := next_n l hs i h0 (by omega)
      have hst := stepC_in l tab col i ht hc
      rw [if_pos c, if_pos c, rnext_f l i hs hl k (by omega)]
      simp only [Option.bind_some]
      rw [wrap_in _ (by omega) (by omega)]
      by_cases c2 : i + (nextOf l i).2 > a
      · rw [if_pos c2, if_pos c2]
      · rw [if_neg c2, if_neg c2, if_pos h0, if_pos (by omega)]
        have e : Int.tdiv col tab = col / tab := Int.tdiv_eq_ediv_of_nonneg hc
        have hq0 : 0 ≤ col / tab := Int.ediv_nonneg hc (by omega)
        have hq1 : col / tab ≤ col := Int.ediv_le_self _ hc
        have hm2 := Int.emod_lt_of_pos col (show 0 < tab by omega)
        have hm1 := Int.emod_nonneg col (show tab ≠ 0 by omega)
        have hq : (col / tab + 1) * tab = col + (tab - col % tab) := by
          have h1 := Int.emod_add_mul_ediv col tab
          rw [Int.add_mul, Int.one_mul, Int.mul_comm]; omega
        have ih := rcol_l0 l hs hl a tab ha ht d k (stepC l tab col i) (i + (nextOf l i).2) (by omega) (by omega) (by omega) (by omega) (by omega)
        by_cases c3 : rd l i = 9
        · have es : stepC l tab col i = col + (tab - col % tab) := by unfold stepC; rw [if_pos c3]
          rw [if_pos c3, if_neg (by omega), e, wrap_in (col / tab) (by omega) (by omega), wrap_in (col / tab + 1) (by omega) (by omega), hq, wrap_in _ (by omega) (by omega), ← es]
          exact ih
        · have es : stepC l tab col i = col + 1 := by unfold stepC; rw [if_neg c3]
          rw [if_neg c3, wrap_in _ (by omega) (by omega), ← es]
          exact ih
    · rw [if_neg c, if_neg c]
theorem rcol_f (l : List Int) (hs : Bytes l) (hl : l.length ≤ 140737488355328) (k : Nat) (hk : l.length + 110 < k) (a tab : Int) :
    exegeteref04_Col.f k l a tab = if (0 ≤ a ∧ a ≤ (l.length : Int)) ∧ 1 ≤ tab ∧ tab ≤ 16 then some (colOf l a tab) else some (-1) := by
  obtain ⟨k, rfl⟩ : ∃ m, k = m + 1 := ⟨k - 1, by omega⟩
  unfold exegeteref04_Col.f
  rw [rplace_f]
  simp only [Option.bind_some]
  by_cases h : 0 ≤ a ∧ a ≤ (l.length : Int)
  · rw [decide_eq_true h.1, decide_eq_true h.2, Bool.and_self, if_pos rfl]
    by_cases t1 : tab < 1
    · rw [if_pos t1, if_neg (by omega)]; simp [exegeteref04_Col.j0]
    · rw [if_neg t1]
      by_cases t2 : tab > 16
      · rw [decide_eq_true t2, if_neg (by omega)]; simp [exegeteref04_Col.j0]
      · rw [decide_eq_false t2, if_pos (by omega)]
        simp only [exegeteref04_Col.j0, Bool.false_eq_true, if_false]
        rw [rbegin_f l hl k (by omega) a, if_pos h]
        simp only [Option.bind_some]
        have hb := begN_le l a.toNat
        exact rcol_l0 l hs hl a tab h.2 (by omega) a.toNat k 0 _ (by omega) (by omega) (by omega) (by omega) (by omega)
  · rw [place_no h, if_neg (by decide), if_neg (by omega)]
    simp [exegeteref04_Col.j0]
/-- Ends of lines, from a place on. -/
def eL : Int → List Int → List Int
  | _, [] => []
  | i, c :: t => if c = 10 ∨ t = [] then (i + 1) :: eL (i + 1) t else eL (i + 1) t
theorem eL_length : ∀ (i : Int) (l : List Int), (eL i l).length ≤ l.length
  | _, [] => Nat.le_refl _
  | i, c :: t => by
    have := eL_length (i + 1) t
    unfold eL; split <;> simp <;> omega
theorem last_cons (x N : Int) (F : List Int) (h1 : x ≠ N) (h2 : N ≠ -1) : ((x :: F).getLast?.getD (-1) = N) ↔ (F.getLast?.getD (-1) = N) := by
  cases F with
  | nil => simp; omega
  | cons y F => rw [List.getLast?_cons_cons]
theorem ends_eL : ∀ (l : List Int) (i : Int), l ≠ [] → 0 ≤ i → Own.feedsFrom i l ++ (if (Own.feedsFrom i l).getLast?.getD (-1) = i + (l.length : Int) then [] else [i + (l.length : Int)]) = eL i l
  | [], _, h, _ => absurd rfl h
  | [c], i, _, hi => by
    unfold Own.feedsFrom eL
    by_cases e : c = 10
    · simp [e, Own.feedsFrom, eL]
    · rw [if_neg e]
      have : ¬ ((-1 : Int) = i + 1) := by omega
      simp [Own.feedsFrom, eL, this]
  | c :: d :: t, i, _, hi => by
    have ih := ends_eL (d :: t) (i + 1) (by simp) (by omega)
    have en : i + 1 + ((d :: t).length : Int) = i + ((c :: d :: t).length : Int) := by rw [List.length_cons (a := c)]; omega
    have hlen : 1 ≤ ((d :: t).length : Int) := by rw [List.length_cons]; omega
    rw [en] at ih
    rw [Own.feedsFrom, eL]
    by_cases e : c = 10
    · rw [if_pos e, if_pos (Or.inl e), List.cons_append]
      congr 1
      rw [← ih]
      congr 1
      have := last_cons (i + 1) (i + ((c :: d :: t).length : Int)) (Own.feedsFrom (i + 1) (d :: t)) (by omega) (by omega)
      by_cases c2 : (Own.feedsFrom (i + 1) (d :: t)).getLast?.getD (-1) = i + ((c :: d :: t).length : Int)
      · rw [if_pos (this.mpr c2), if_pos c2]
      · rw [if_neg (fun h => c2 (this.mp h)), if_neg c2]
    · rw [if_neg e, ih, if_neg (show ¬ (c = 10 ∨ d :: t = []) by simp [e])]
theorem endsOf_eL (l : List Int) : Own.endsOf l = eL 0 l ++ (if l = [] then [0] else []) := by
  unfold Own.endsOf
  by_cases h : l = []
  · subst h; simp [Own.feedsFrom, eL]
  · have := ends_eL l 0 h (by omega)
    rw [Int.zero_add] at this
    rw [this, if_neg h, List.append_nil]
theorem rends_l0 (l : List Int) (hl : l.length ≤ 1000) : ∀ (d k i : Nat) (acc : List Int), i + d = l.length → d < k → acc.length ≤ i → exegeteref04_Ends.l0 k l acc ((i : Int) + 1) = some (acc ++ eL (i : Int) (l.drop i) ++ (if l = [] then [0] else []))
  | d, 0, _, _, _, h, _ => by omega
  | 0, k + 1, i, acc, h, _, hacc => by
    simp only [exegeteref04_Ends.l0]
    rw [if_neg (by omega), List.drop_eq_nil_of_le (by omega)]
    by_cases e : l = []
    · rw [if_pos (by subst e; rfl), if_pos (by omega), if_pos e]; simp [eL]
    · have : ¬ (l.length : Int) = 0 := fun h0 => e (List.eq_nil_of_length_eq_zero (by omega))
      rw [if_neg this, if_neg e]; simp [eL]
  | d + 1, k + 1, i, acc, h, hk, hacc => by
    simp only [exegeteref04_Ends.l0]
    have e1 : (i : Int) + 1 - 1 = (i : Int) := by omega
    rw [if_pos (by omega), e1, wrap_in _ (by omega) (by omega), if_pos (by omega), if_pos (by omega), wrap_in _ (by omega) (by omega)]
    have hd := drop_rd l (i : Int) (by omega) (by omega)
    rw [Int.toNat_natCast] at hd
    have e2 : (i : Int) + 1 + 1 = ((i + 1 : Nat) : Int) + 1 := by omega
    have e3 : (i : Int) + 1 = ((i + 1 : Nat) : Int) := by omega
    rw [hd, eL, e2]
    by_cases c : rd l (i : Int) = 10
    · rw [if_pos c, if_pos (by omega), if_pos (Or.inl c), rends_l0 l hl d k (i + 1) (acc ++ [(i : Int) + 1]) (by omega) (by omega) (by simp; omega), e3]
      simp
    · rw [if_neg c]
      by_cases c2 : (i : Int) + 1 = (l.length : Int)
      · have hn : l.drop (i + 1) = [] := List.drop_eq_nil_of_le (by omega)
        rw [if_pos c2, if_pos (by omega), if_pos (Or.inr hn), rends_l0 l hl d k (i + 1) (acc ++ [(i : Int) + 1]) (by omega) (by omega) (by simp; omega), e3]
        simp
      · have hn : l.drop (i + 1) ≠ [] := fun h => by have := List.drop_eq_nil_iff.mp h; omega
        rw [if_neg c2, if_neg (by simp [c, hn]), rends_l0 l hl d k (i + 1) acc (by omega) (by omega) (by omega), e3]
theorem rends_f (l : List Int) (hl : l.length ≤ 1000) (k : Nat) (hk : l.length < k) : exegeteref04_Ends.f k l = some (Own.endsOf l) := by
  unfold exegeteref04_Ends.f
  have := rends_l0 l hl l.length k 0 [] (by omega) (by omega) (by simp)
  rw [show ((0 : Nat) : Int) + 1 = 1 from rfl] at this
  rw [this, endsOf_eL]; simp
theorem rints_l0 (x : List Int) (hx : x.length ≤ 2000) : ∀ (d k i : Nat), i + d = x.length → d < k → exegeteref04_Ints.l0 k x x (i : Int) = some true
  | d, 0, _, _, h => by omega
  | 0, k + 1, i, h, _ => by
    simp only [exegeteref04_Ints.l0]; rw [if_neg (by omega)]
  | d + 1, k + 1, i, h, hk => by
    simp only [exegeteref04_Ints.l0]
    rw [if_pos (by omega), if_pos (by omega), if_pos (by omega), if_pos trivial, wrap_in _ (by omega) (by omega), show (i : Int) + 1 = ((i + 1 : Nat) : Int) by omega]
    exact rints_l0 x hx d k (i + 1) (by omega) (by omega)
theorem rints_f (x : List Int) (hx : x.length ≤ 2000) (k : Nat) (hk : x.length < k) : exegeteref04_Ints.f k x x = some true := by
  unfold exegeteref04_Ints.f
  rw [if_pos rfl]
  exact rints_l0 x hx x.length k 0 (by omega) (by omega)
theorem endsOf_length (l : List Int) : (Own.endsOf l).length ≤ l.length + 1 := by
  rw [endsOf_eL, List.length_append]
  have := eL_length 0 l
  split <;> simp <;> omega
end Go.Proofs.YtahabdogohdjeaaDoor.Pure
