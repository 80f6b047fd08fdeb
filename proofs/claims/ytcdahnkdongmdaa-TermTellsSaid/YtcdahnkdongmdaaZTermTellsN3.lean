/- Texts of the claim TermTells, merged, without what it does not use. -/
import Derived.Test.YtcdahnkdongmdaaZTermTellsX4
namespace Go.Proofs.Ytcdahnkdongmdaa.Pure
set_option linter.unusedVariables false
set_option linter.unusedSimpArgs false
set_option linter.unnecessarySimpa false
open Go.RowKit Go.Proofs.Ytcdahnkdongmdaa.All Go.Proofs.YtcdahnkdongmdaaW.PrintWords Go.Proofs.YtcdahnkdongmdaaW.PrintLast
open Own
abbrev Rg := S35
def Canon (lo : Int) : List Rg → Prop
  | [] => True
  | r :: t => lo ≤ r.f0 ∧ r.f0 ≤ r.f1 ∧ r.f1 ≤ 1114111 ∧ Canon (r.f1 + 2) t
theorem hasB_nil (n : Int) : hasB [] n = false := rfl
theorem hasB_cons (r : Rg) (t : List Rg) (n : Int) : hasB (r :: t) n = (inR r n || hasB t n) := rfl
theorem hasB_append (a b : List Rg) (n : Int) : hasB (a ++ b) n = (hasB a n || hasB b n) := by unfold hasB; rw [List.any_append]
theorem inR_iff (r : Rg) (n : Int) : inR r n = true ↔ r.f0 ≤ n ∧ n ≤ r.f1 := by unfold inR; rw [Bool.and_eq_true, decide_eq_true_eq, decide_eq_true_eq]
theorem inR_false {r : Rg} {n : Int} (h : ¬ (r.f0 ≤ n ∧ n ≤ r.f1)) : inR r n = false := Bool.eq_false_iff.mpr fun h' => h ((inR_iff r n).mp h')
theorem hasB_mem {l : List Rg} {n : Int} (h : hasB l n = true) : ∃ r ∈ l, r.f0 ≤ n ∧ n ≤ r.f1 := by
  unfold hasB at h
  obtain ⟨r, h1, h2⟩ := List.any_eq_true.mp h
  exact ⟨r, h1, (inR_iff r n).mp h2⟩
theorem mem_hasB {l : List Rg} {n : Int} {r : Rg} (h1 : r ∈ l) (h2 : r.f0 ≤ n) (h3 : n ≤ r.f1) : hasB l n = true := List.any_eq_true.mpr ⟨r, h1, (inR_iff r n).mpr ⟨h2, h3⟩⟩
theorem Canon.mem : ∀ {lo : Int} {l : List Rg}, Canon lo l → ∀ r ∈ l, lo ≤ r.f0 ∧ r.f0 ≤ r.f1 ∧ r.f1 ≤ 1114111
  | lo, [], _, r, h => by cases h
  | lo, s :: t, ⟨h1, h2, h3, h4⟩, r, h => by
    rcases List.mem_cons.mp h with rfl | h
    · exact ⟨h1, h2, h3⟩
    · have := Canon.mem h4 r h; omega
theorem Canon.ge {lo : Int} {l : List Rg} (h : Canon lo l) {n : Int} (hn : hasB l n = true) : lo ≤ n := by
  obtain ⟨r, h1, h2, h3⟩ := hasB_mem hn
  have := h.mem r h1; omega
theorem Canon.no {lo : Int} {l : List Rg} (h : Canon lo l) {n : Int} (hn : n < lo) : hasB l n = false := Bool.eq_false_iff.mpr fun h' => by have := h.ge h'; omega
theorem Canon.ext : ∀ {p q : List Rg} {lo : Int}, Canon lo p → Canon lo q → (∀ n, hasB p n = hasB q n) → p = q
  | [], [], _, _, _, _ => rfl
  | [], s :: u, _, _, ⟨_, h2, _, _⟩, h => by
    have := h s.f0
    rw [hasB_nil, mem_hasB List.mem_cons_self (Int.le_refl _) h2] at this; cases this
  | r :: t, [], _, ⟨_, h2, _, _⟩, _, h => by
    have := h r.f0
    rw [hasB_nil, mem_hasB List.mem_cons_self (Int.le_refl _) h2] at this; cases this
  | r :: t, s :: u, lo, ⟨p1, p2, p3, p4⟩, ⟨q1, q2, q3, q4⟩, h => by
    have cp : Canon r.f0 (r :: t) := ⟨Int.le_refl _, p2, p3, p4⟩
    have cq : Canon s.f0 (s :: u) := ⟨Int.le_refl _, q2, q3, q4⟩
    have a1 := cq.ge ((h r.f0).symm.trans (mem_hasB List.mem_cons_self (Int.le_refl _) p2))
    have a2 := cp.ge ((h s.f0).trans (mem_hasB List.mem_cons_self (Int.le_refl _) q2))
    have b1 : ¬ r.f1 < s.f1 := fun hlt => by
      have e : hasB (r :: t) (r.f1 + 1) = true := (h _).trans (mem_hasB List.mem_cons_self (by omega) (by omega))
      rw [hasB_cons, inR_false (by omega), Bool.false_or] at e
      have := p4.ge e; omega
    have b2 : ¬ s.f1 < r.f1 := fun hlt => by
      have e : hasB (s :: u) (s.f1 + 1) = true := (h _).symm.trans (mem_hasB List.mem_cons_self (by omega) (by omega))
      rw [hasB_cons, inR_false (by omega), Bool.false_or] at e
      have := q4.ge e; omega
    have e0 : r.f0 = s.f0 := by omega
    have e1 : r.f1 = s.f1 := by omega
    have er : r = s := by
      cases r; cases s; simp only at e0 e1; rw [e0, e1]
    subst er
    congr 1
    refine Canon.ext p4 q4 fun n => ?_
    by_cases hn : n < r.f1 + 2
    · rw [p4.no hn, q4.no hn]
    · have := h n
      rw [hasB_cons, hasB_cons, inR_false (by omega), Bool.false_or, Bool.false_or] at this
      exact this
theorem Canon.snoc : ∀ {o : List Rg} {lo : Int} {x : Rg}, Canon lo o → (∀ s ∈ o, s.f1 + 2 ≤ x.f0) → lo ≤ x.f0 → x.f0 ≤ x.f1 → x.f1 ≤ 1114111 → Canon lo (o ++ [x])
  | [], lo, x, _, _, h1, h2, h3 => ⟨h1, h2, h3, trivial⟩
  | r :: t, lo, x, ⟨p1, p2, p3, p4⟩, hs, h1, h2, h3 =>
    ⟨p1, p2, p3, Canon.snoc p4 (fun s hm => hs s (List.mem_cons_of_mem _ hm)) (hs r List.mem_cons_self) h2 h3⟩
theorem Canon.stretch : ∀ {o : List Rg} {lo : Int} {r : Rg} {b : Int}, Canon lo (o ++ [r]) → r.f1 ≤ b → b ≤ 1114111 → Canon lo (o ++ [⟨r.f0, b⟩])
  | [], lo, r, b, ⟨p1, p2, p3, _⟩, h1, h2 => ⟨p1, by show r.f0 ≤ b; omega, h2, trivial⟩
  | s :: t, lo, r, b, ⟨p1, p2, p3, p4⟩, h1, h2 => ⟨p1, p2, p3, Canon.stretch (o := t) p4 h1 h2⟩
structure Upto (F : Int → Bool) (out : List Rg) (a : Int) : Prop where
  can : Canon 0 out
  low : ∀ s ∈ out, s.f1 < a
  has : ∀ n, hasB out n = (decide (0 ≤ n) && decide (n < a) && F n)
theorem wrap_pred {a : Int} (h0 : -1000000 ≤ a) (h1 : a ≤ 4000000) : wrap64 (a - 1) = a - 1 := by unfold wrap64; omega
theorem Upto.put {F : Int → Bool} {out : List Rg} {a b : Int} (h : Upto F out a) (h0 : 0 ≤ a) (hab : a < b) (hb : b ≤ 1114112) (hc : ∀ n, a ≤ n → n < b → F n = F a) : Upto F (putB F out (a, b - 1)) b := by
  unfold putB
  cases hF : F a with
  | false =>
    rw [if_neg (by simp [hF])]
    refine ⟨h.can, fun s hs => by have := h.low s hs; omega, fun n => ?_⟩
    rw [h.has n]
    by_cases h1 : n < a
    · rw [decide_eq_true h1, decide_eq_true (show n < b by omega)]
    · by_cases h2 : n < b
      · rw [hc n (by omega) h2, hF, Bool.and_false, Bool.and_false]
      · rw [decide_eq_false h1, decide_eq_false h2]
  | true =>
    rw [if_pos (by simp [hF])]
    have fin : ∀ (o : List Rg) (x0 : Int), (∀ n, hasB o n = (decide (0 ≤ n) && decide (n < x0) && F n) ∨ n < a ∧ x0 ≤ n) → True := fun _ _ _ => trivial
    have app : Upto F (out ++ [⟨a, b - 1⟩]) b ∨ ∃ s ∈ out, s.f1 = a - 1 := by
      by_cases hx : ∃ s ∈ out, s.f1 = a - 1
      · exact .inr hx
      · refine .inl ⟨h.can.snoc (fun s hs => ?_) h0 (by show a ≤ b - 1; omega) (by show b - 1 ≤ 1114111; omega), fun s hs => ?_, fun n => ?_⟩
        · have h1 := h.low s hs
          have h2 : s.f1 ≠ a - 1 := fun e => hx ⟨s, hs, e⟩
          show s.f1 + 2 ≤ a; omega
        · rcases List.mem_append.mp hs with h1 | h1
          · have := h.low s h1; omega
          · rcases List.mem_singleton.mp h1 with rfl; show b - 1 < b; omega
        · rw [hasB_append, h.has n, hasB_cons, hasB_nil, Bool.or_false]
          by_cases h1 : n < a
          · rw [inR_false (by show ¬ (a ≤ n ∧ n ≤ b - 1); omega), decide_eq_true h1, decide_eq_true (show n < b by omega), Bool.or_false]
          · by_cases h2 : n < b
            · rw [(inR_iff _ n).mpr (by show a ≤ n ∧ n ≤ b - 1; omega), hc n (by omega) h2, hF, decide_eq_true h2, decide_eq_true (show 0 ≤ n by omega), Bool.or_true]; rfl
            · rw [inR_false (by show ¬ (a ≤ n ∧ n ≤ b - 1); omega), decide_eq_false h1, decide_eq_false h2]; simp
    cases hl : out.getLast? with
    | none =>
      obtain rfl : out = [] := List.getLast?_eq_none_iff.mp hl
      rcases app with h1 | ⟨s, hs, _⟩
      · exact h1
      · cases hs
    | some r =>
      obtain ⟨o2, rfl⟩ : ∃ o2, out = o2 ++ [r] := by
        rw [List.getLast?_eq_some_iff] at hl; obtain ⟨ys, hh⟩ := hl; exact ⟨ys, hh⟩
      have hr := h.can.mem r (by simp)
      have hrl := h.low r (by simp)
      show Upto F (if r.f1 = wrap64 (a - 1) then (o2 ++ [r]).dropLast ++ [⟨r.f0, b - 1⟩] else o2 ++ [r] ++ [⟨a, b - 1⟩]) b
      rw [wrap_pred (by omega) (by omega)]
      by_cases he : r.f1 = a - 1
      · rw [if_pos he, List.dropLast_concat]
        have hcan := h.can
        refine ⟨hcan.stretch (by omega) (by omega), fun s hs => ?_, fun n => ?_⟩
        · rcases List.mem_append.mp hs with h1 | h1
          · have := h.low s (List.mem_append_left _ h1); omega
          · rcases List.mem_singleton.mp h1 with rfl; show b - 1 < b; omega
        · have hn := h.has n
          rw [hasB_append, hasB_cons, hasB_nil, Bool.or_false] at hn ⊢
          by_cases h1 : n < a
          · have e : inR (⟨r.f0, b - 1⟩ : Rg) n = inR r n := by
              by_cases h3 : r.f0 ≤ n
              · rw [(inR_iff _ n).mpr (by show r.f0 ≤ n ∧ n ≤ b - 1; omega), (inR_iff r n).mpr (by omega)]
              · rw [inR_false (by show ¬ (r.f0 ≤ n ∧ n ≤ b - 1); omega), inR_false (by omega)]
            rw [e, hn, decide_eq_true h1, decide_eq_true (show n < b by omega)]
          · by_cases h2 : n < b
            · rw [(inR_iff (⟨r.f0, b - 1⟩ : Rg) n).mpr (by show r.f0 ≤ n ∧ n ≤ b - 1; omega), hc n (by omega) h2, hF, decide_eq_true h2, decide_eq_true (show 0 ≤ n by omega), Bool.or_true]; rfl
            · rw [decide_eq_false h1, Bool.and_false, Bool.false_and] at hn
              have h4 := (Bool.or_eq_false_iff.mp hn).1
              rw [h4, inR_false (by show ¬ (r.f0 ≤ n ∧ n ≤ b - 1); omega), decide_eq_false h2, Bool.and_false, Bool.false_and]; rfl
      · rw [if_neg he]
        rcases app with h1 | ⟨s, hs, hse⟩
        · exact h1
        · exfalso
          rcases List.mem_append.mp hs with h1 | h1
          · have hcs : ∀ (o : List Rg) (lo : Int), Canon lo (o ++ [r]) → ∀ s ∈ o, s.f1 + 2 ≤ r.f0 := by
              intro o
              induction o with
              | nil => intro lo _ s hs; cases hs
              | cons x t ih =>
                intro lo hc' s hs
                obtain ⟨_, _, _, p4⟩ := hc'
                rcases List.mem_cons.mp hs with rfl | hs
                · have := p4.mem r (by simp); omega
                · exact ih _ p4 s hs
            have := hcs o2 0 h.can s h1; omega
          · rcases List.mem_singleton.mp h1 with rfl; exact he hse
theorem const_on {F : Int → Bool} {a b : Int} (h : ∀ n, a ≤ n → n + 1 < b → F (n + 1) = F n) : ∀ n, a ≤ n → n < b → F n = F a := by
  intro n h1 h2
  obtain ⟨d, rfl⟩ : ∃ d : Nat, n = a + d := ⟨(n - a).toNat, by omega⟩
  induction d with
  | zero => simp
  | succ d ih =>
    rw [← ih (by omega) (by omega), show a + ((d + 1 : Nat) : Int) = (a + d) + 1 by omega]
    exact h _ (by omega) (by omega)
theorem fold_segs (F : Int → Bool) : ∀ (bs : List Int) (a : Int) (out : List Rg), (a :: bs).Pairwise (· < ·) → 0 ≤ a → (∀ x ∈ bs, x ≤ 1114112) → (∀ n, a ≤ n → n + 1 < 1114112 → n + 1 ∉ bs → F (n + 1) = F n) → Upto F out a → Upto F ((segsB (a :: bs)).foldl (putB F) out) (bs.getLastD a)
  | [], a, out, _, _, _, _, h => h
  | b :: t, a, out, hp, h0, hb, hF, h => by
    have hp1 := List.pairwise_cons.mp hp
    have hab : a < b := hp1.1 b List.mem_cons_self
    have hp2 := List.pairwise_cons.mp hp1.2
    have hb1 := hb b List.mem_cons_self
    have h1 : Upto F (putB F out (a, b - 1)) b := h.put h0 hab hb1 (const_on fun n hn1 hn2 => hF n hn1 (by omega) (fun hm => by
      rcases List.mem_cons.mp hm with e | hm
      · omega
      · have := hp2.1 _ hm; omega))
    have h2 := fold_segs F t b (putB F out (a, b - 1)) hp1.2 (by omega) (fun x hx => hb x (List.mem_cons_of_mem _ hx)) (fun n hn1 hn2 hn3 => hF n (by omega) hn2 (fun hm => by
      rcases List.mem_cons.mp hm with e | hm
      · omega
      · exact hn3 hm)) h1
    rw [segsB, List.foldl_cons, List.getLastD_cons]
    exact h2
theorem compactUpTo_mem (d : Array Int) : ∀ m i, i < m → d[i]! ∈ Lib.compactUpTo d m
  | 0, i, h => by omega
  | m + 1, i, h => by
    rw [Lib.compactUpTo_succ]
    by_cases hi : i < m
    · exact List.mem_append_left _ (compactUpTo_mem d m i hi)
    · obtain rfl : i = m := by omega
      by_cases h0 : i = 0
      · subst h0
        rw [if_pos (Lib.keeps_lt_one d 0 (by omega))]; simp
      · by_cases e : d[i]! = d[i - 1]!
        · rw [e]; exact List.mem_append_left _ (compactUpTo_mem d i (i - 1) (by omega))
        · rw [if_pos (Lib.keeps_pos e)]; simp
theorem compactUpTo_sorted (d : Array Int) (hs : ∀ i j, i ≤ j → j < d.size → d[i]! ≤ d[j]!) : ∀ m, m ≤ d.size → (Lib.compactUpTo d m).Pairwise (· < ·) ∧ ∀ x ∈ Lib.compactUpTo d m, x ≤ d[m - 1]!
  | 0, _ => by
    have : Lib.compactUpTo d 0 = [] := rfl
    rw [this]; exact ⟨List.Pairwise.nil, fun x h => by cases h⟩
  | m + 1, h => by
    obtain ⟨h1, h2⟩ := compactUpTo_sorted d hs m (by omega)
    rw [Lib.compactUpTo_succ]
    by_cases h0 : m = 0
    · subst h0
      have : Lib.compactUpTo d 0 = [] := rfl
      rw [this, if_pos (Lib.keeps_lt_one d 0 (by omega))]
      exact ⟨List.pairwise_singleton _ _, fun x hx => by rcases List.mem_singleton.mp hx with rfl; exact Int.le_refl _⟩
    · have hm := hs (m - 1) m (by omega) (by omega)
      by_cases e : d[m]! = d[m - 1]!
      · rw [if_neg (by rw [Lib.keeps_neg (by omega) e]; decide), List.append_nil]
        exact ⟨h1, fun x hx => by have := h2 x hx; rw [Nat.add_sub_cancel]; omega⟩
      · rw [if_pos (Lib.keeps_pos e)]
        refine ⟨List.pairwise_append.mpr ⟨h1, List.pairwise_singleton _ _, fun x hx y hy => ?_⟩, fun x hx => ?_⟩
        · rcases List.mem_singleton.mp hy with rfl
          have := h2 x hx; omega
        · rw [Nat.add_sub_cancel]
          rcases List.mem_append.mp hx with h3 | h3
          · have := h2 x h3; omega
          · rcases List.mem_singleton.mp h3 with rfl; exact Int.le_refl _
theorem compact_mem_of (zs : List Int) (x : Int) (h : x ∈ zs) : x ∈ Lib.compact zs := by
  obtain ⟨i, hi, rfl⟩ := List.getElem_of_mem h
  have := compactUpTo_mem zs.toArray zs.length i hi
  rw [getElem!_pos _ _ (by simpa using hi)] at this
  simpa [Lib.compact] using this
theorem compact_sorted (zs : List Int) (hs : zs.Pairwise (· ≤ ·)) : (Lib.compact zs).Pairwise (· < ·) := by
  refine (compactUpTo_sorted zs.toArray (fun i j h1 h2 => ?_) zs.length (by simp)).1
  have h3 : j < zs.length := by simpa using h2
  rw [getElem!_pos zs.toArray i (by simp; omega), getElem!_pos zs.toArray j h2]
  rcases Nat.lt_or_ge i j with h4 | h4
  · simpa using List.pairwise_iff_getElem.mp hs i j (by omega) h3 h4
  · obtain rfl : i = j := by omega
    exact Int.le_refl _
theorem sortI_sorted (zs : List Int) : (sortI zs).Pairwise (· ≤ ·) := by
  unfold sortI
  have h := List.pairwise_mergeSort (le := fun x y => !(Go.Proofs.ltOf Lib.compareInt) y x) (fun a b c h1 h2 => by simp only [lt_cmp, Bool.not_eq_true', decide_eq_false_iff_not] at *; omega) (fun a b => by simp only [lt_cmp, Bool.or_eq_true, Bool.not_eq_true', decide_eq_false_iff_not]; omega) zs.toArray.toList
  refine h.imp fun {a b} hab => ?_
  simp only [lt_cmp, Bool.not_eq_true', decide_eq_false_iff_not] at hab
  omega
theorem bordB_mem (l : List Rg) (x : Int) : x ∈ bordB l ↔ x ∈ rawB l := by
  unfold bordB
  refine ⟨fun h => (sortI_mem _ _).mp (compact_mem _ _ h), fun h => compact_mem_of _ _ ((sortI_mem _ _).mpr h)⟩
theorem bordB_form (l : List Rg) : ∃ bs, bordB l = 0 :: bs ∧ (0 :: bs).Pairwise (· < ·) ∧ bs.getLastD 0 = 1114112 ∧ (∀ x ∈ bs, x ≤ 1114112) ∧ ∀ x, x ∈ bs → x ∈ rawB l := by
  have hp : (bordB l).Pairwise (· < ·) := compact_sorted _ (sortI_sorted _)
  have h0 : (0 : Int) ∈ bordB l := (bordB_mem l 0).mpr (by unfold rawB; exact List.mem_cons_self)
  have h1 : (1114112 : Int) ∈ bordB l := (bordB_mem l _).mpr (by unfold rawB; exact List.mem_cons_of_mem _ List.mem_cons_self)
  have hr := bordB_range l
  have hm : ∀ x, x ∈ bordB l → x ∈ rawB l := fun x => (bordB_mem l x).mp
  generalize bordB l = bb at *
  cases bb with
  | nil => cases h0
  | cons a bs =>
    have hp1 := List.pairwise_cons.mp hp
    have ha : a = 0 := by
      rcases List.mem_cons.mp h0 with e | h2
      · exact e.symm
      · have h3 := hp1.1 0 h2
        have h4 := hr a List.mem_cons_self; omega
    subst ha
    refine ⟨bs, rfl, hp, ?_, fun x hx => (hr x (List.mem_cons_of_mem _ hx)).2, fun x hx => hm x (List.mem_cons_of_mem _ hx)⟩
    rcases List.mem_cons.mp h1 with e | h2
    · cases e
    · obtain ⟨ys, y, rfl⟩ : ∃ ys y, bs = ys ++ [y] := by
        rcases List.eq_nil_or_concat bs with e | ⟨ys, y, e⟩
        · rw [e] at h2; cases h2
        · exact ⟨ys, y, by rw [e]; simp⟩
      have hy := (hr y (by simp)).2
      have e : y = 1114112 := by
        rcases List.mem_append.mp h2 with h3 | h3
        · have := (List.pairwise_append.mp hp1.2).2.2 _ h3 y (by simp); omega
        · exact (List.mem_singleton.mp h3).symm
      rw [e]; simp
def Resp (l : List Rg) (F : Int → Bool) : Prop := ∀ n, 0 ≤ n → n + 1 < 1114112 → n + 1 ∉ rawB l → F (n + 1) = F n
theorem upto_nil (F : Int → Bool) : Upto F [] 0 := ⟨trivial, (fun s h => by cases h), fun n => by
  rw [hasB_nil]
  by_cases h : 0 ≤ n
  · rw [decide_eq_false (show ¬ n < 0 by omega), Bool.and_false, Bool.false_and]
  · rw [decide_eq_false h]; rfl⟩
theorem pickB_upto (F : Int → Bool) (l : List Rg) (h : Resp l F) : Upto F (pickB F l) 1114112 := by
  obtain ⟨bs, e, hp, hl, hb, hm⟩ := bordB_form l
  have h1 := fold_segs F bs 0 [] hp (Int.le_refl _) hb (fun n h1 h2 h3 => by
    by_cases h4 : n + 1 ∈ bordB l
    · rw [e] at h4
      rcases List.mem_cons.mp h4 with h5 | h5
      · omega
      · exact absurd h5 h3
    · exact h n h1 h2 fun h5 => h4 ((bordB_mem l _).mpr h5)) (upto_nil F)
  rw [hl] at h1
  unfold pickB
  rw [e]
  exact h1
theorem mn_mx (r : Rg) : (0 < loB r → loB r < 1114112 → loB r = r.f0) ∧ (hiB r < 1114112 → 0 < hiB r → hiB r = r.f1 + 1) ∧ (0 < r.f0 → r.f0 < 1114112 → loB r = r.f0) ∧ (0 ≤ r.f1 → r.f1 < 1114111 → hiB r = r.f1 + 1) := by
  unfold loB hiB mnI mxI wrap64
  refine ⟨?_, ?_, ?_, ?_⟩ <;> (repeat' split) <;> intros <;> omega
theorem rawB_mem (l : List Rg) (x : Int) : x ∈ rawB l ↔ x = 0 ∨ x = 1114112 ∨ ∃ r ∈ l, x = loB r ∨ x = hiB r := by
  unfold rawB
  rw [List.mem_cons, List.mem_cons, List.mem_flatMap]
  refine or_congr Iff.rfl (or_congr Iff.rfl ⟨?_, ?_⟩)
  · rintro ⟨r, h1, h2⟩; exact ⟨r, h1, by simpa using h2⟩
  · rintro ⟨r, h1, h2⟩; exact ⟨r, h1, by simpa using h2⟩
theorem rawB_sub {l l' : List Rg} (h : ∀ r ∈ l, r ∈ l') {x : Int} (hx : x ∈ rawB l) : x ∈ rawB l' := by
  rw [rawB_mem] at *
  rcases hx with h1 | h1 | ⟨r, h1, h2⟩
  · exact .inl h1
  · exact .inr (.inl h1)
  · exact .inr (.inr ⟨r, h r h1, h2⟩)
theorem hasB_resp : ∀ l : List Rg, Resp l (hasB l)
  | [] => fun n _ _ _ => rfl
  | r :: t => fun n h1 h2 h3 => by
    have ht := hasB_resp t n h1 h2 fun h => h3 (rawB_sub (fun r hr => List.mem_cons_of_mem _ hr) h)
    have hl : n + 1 ≠ loB r := fun e => h3 ((rawB_mem _ _).mpr (.inr (.inr ⟨r, List.mem_cons_self, .inl e⟩)))
    have hh : n + 1 ≠ hiB r := fun e => h3 ((rawB_mem _ _).mpr (.inr (.inr ⟨r, List.mem_cons_self, .inr e⟩)))
    obtain ⟨_, _, m3, m4⟩ := mn_mx r
    rw [hasB_cons, hasB_cons, ht]
    congr 1
    by_cases c : r.f0 ≤ n ∧ n ≤ r.f1
    · have : n + 1 ≤ r.f1 := by
        by_cases c2 : r.f1 = n
        · have := m4 (by omega) (by omega); omega
        · omega
      rw [(inR_iff r n).mpr c, (inR_iff r (n + 1)).mpr (by omega)]
    · rw [inR_false c, inR_false]
      intro c2
      by_cases c3 : r.f0 = n + 1
      · have := m3 (by omega) (by omega); omega
      · omega
theorem Resp.left {a b : List Rg} {F : Int → Bool} (h : Resp a F) : Resp (a ++ b) F := fun n h1 h2 h3 => h n h1 h2 fun hm => h3 (rawB_sub (fun r hr => List.mem_append_left _ hr) hm)
theorem Resp.right {a b : List Rg} {F : Int → Bool} (h : Resp b F) : Resp (a ++ b) F := fun n h1 h2 h3 => h n h1 h2 fun hm => h3 (rawB_sub (fun r hr => List.mem_append_right _ hr) hm)
theorem norm_upto (l : List Rg) : Upto (hasB l) (pickB (hasB l) l) 1114112 := pickB_upto _ _ (hasB_resp l)
theorem both_upto (a b : List Rg) : Upto (bothF a b) (bothB a b) 1114112 := pickB_upto _ _ fun n h1 h2 h3 => by
  unfold bothF; rw [(hasB_resp a).left n h1 h2 h3, (hasB_resp b).right n h1 h2 h3]
theorem Upto.ext {F G : Int → Bool} {p q : List Rg} (hp : Upto F p 1114112) (hq : Upto G q 1114112) (h : ∀ n, 0 ≤ n → n < 1114112 → F n = G n) : p = q := by
  refine Canon.ext hp.can hq.can fun n => ?_
  rw [hp.has, hq.has]
  by_cases h0 : 0 ≤ n
  · by_cases h1 : n < 1114112
    · rw [h n h0 h1]
    · rw [decide_eq_false h1, Bool.and_false, Bool.false_and, Bool.false_and]
  · rw [decide_eq_false h0, Bool.false_and, Bool.false_and, Bool.false_and]
theorem Upto.at {F : Int → Bool} {p : List Rg} (hp : Upto F p 1114112) {n : Int} (h0 : 0 ≤ n) (h1 : n < 1114112) : hasB p n = F n := by
  rw [hp.has, decide_eq_true h0, decide_eq_true h1]; rfl
end Go.Proofs.Ytcdahnkdongmdaa.Pure
