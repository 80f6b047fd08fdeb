/- Plain facts on scalars' bytes and units (chapter 1): what goes on from a place, how many units bytes are, for every list of bytes. -/
import Derived.Test.YtcdahnkdongmdaaNUtfM
namespace Go.Proofs.Ytcdahnkdongmdaa.All
open Go.RowKit

/-- The first byte tells how many there are. -/
theorem put_head {r : Int} (h : mayB r = true) : ∃ a t, putOf r = a :: t ∧ ((a < 128 ∧ szOf r = 1) ∨ (194 ≤ a ∧ a < 224 ∧ szOf r = 2) ∨ (224 ≤ a ∧ a < 240 ∧ szOf r = 3) ∨ (240 ≤ a ∧ a < 245 ∧ szOf r = 4)) := by
  obtain ⟨h0, h1, h2⟩ := (mayB_iff r).mp h
  unfold putOf szOf
  by_cases c1 : r < 128
  · rw [if_pos c1, if_pos c1]; exact ⟨_, _, rfl, by omega⟩
  · rw [if_neg c1, if_neg c1]
    by_cases c2 : r < 2048
    · rw [if_pos c2, if_pos c2]; exact ⟨_, _, rfl, by omega⟩
    · rw [if_neg c2, if_neg c2]
      by_cases c3 : r < 65536
      · rw [if_pos c3, if_pos c3]; exact ⟨_, _, rfl, by omega⟩
      · rw [if_neg c3, if_neg c3]; exact ⟨_, _, rfl, by omega⟩
theorem put_tail {r : Int} (h : mayB r = true) : ∀ a t, putOf r = a :: t → ∀ x ∈ t, 128 ≤ x ∧ x < 192 := by
  obtain ⟨h0, h1, h2⟩ := (mayB_iff r).mp h
  intro a t
  unfold putOf
  split
  · intro e; injection e with e1 e2; subst e2; intro x hx; cases hx
  · split
    · intro e; injection e with e1 e2; subst e2; intro x hx; simp at hx; omega
    · split
      · intro e; injection e with e1 e2; subst e2; intro x hx; simp at hx; omega
      · intro e; injection e with e1 e2; subst e2; intro x hx; simp at hx; omega
theorem put_inj {r q : Int} (hr : mayB r = true) (hq : mayB q = true) (h : putOf r = putOf q) : r = q := by
  obtain ⟨r0, r1, r2⟩ := (mayB_iff r).mp hr
  obtain ⟨q0, q1, q2⟩ := (mayB_iff q).mp hq
  have hl := congrArg List.length h
  rw [put_length, put_length] at hl
  have hs := sz_range r
  have hs' := sz_range q
  have hz : szOf r = szOf q := by omega
  unfold szOf at hz
  unfold putOf at h
  split at h <;> split at h <;> (try split at h) <;> (try split at h) <;> (try split at h) <;> (try split at h) <;> simp at h <;> omega
theorem put_prefix {r q : Int} {s : List Int} (hr : mayB r = true) (hq : mayB q = true) (h1 : putOf r <+: s) (h2 : putOf q <+: s) : r = q := by
  obtain ⟨a, t, ea, ha⟩ := put_head hr
  obtain ⟨b, u, eb, hb⟩ := put_head hq
  have hab : a = b := by
    obtain ⟨s1, e1⟩ := h1
    obtain ⟨s2, e2⟩ := h2
    rw [ea] at e1
    rw [eb] at e2
    rw [← e2] at e1
    injection e1
  subst hab
  have hz : szOf r = szOf q := by omega
  have hl : (putOf r).length = (putOf q).length := by rw [put_length, put_length, hz]
  exact put_inj hr hq ((List.prefix_of_prefix_length_le h1 h2 (by omega)).eq_of_length hl)

theorem next_scalar {r : Int} {s : List Int} (hs : Bytes s) (hr : mayB r = true) (hp : putOf r <+: s) : nextS s = (r, szOf r) := by
  have w1 := fun q => way1_iff s q hs
  have w2 := fun q => way2_iff s q hs
  have w3 := fun q => way3_iff s q hs
  have w4 := fun q => way4_iff s q hs
  have hz := sz_range r
  have no : ∀ q, mayB q = true → putOf q <+: s → q = r := fun q h1 h2 => put_prefix h1 hr h2 hp
  have n1 : szOf r ≠ 1 → wayOf s 1 0 = none := fun h => by
    cases e : wayOf s 1 0 with
    | none => rfl
    | some q => obtain ⟨a, b, c⟩ := (w1 q).mp e; obtain rfl := no q a c; exact absurd b h
  have n2 : szOf r ≠ 2 → wayOf s 2 192 = none := fun h => by
    cases e : wayOf s 2 192 with
    | none => rfl
    | some q => obtain ⟨a, b, c⟩ := (w2 q).mp e; obtain rfl := no q a c; exact absurd b h
  have n3 : szOf r ≠ 3 → wayOf s 3 224 = none := fun h => by
    cases e : wayOf s 3 224 with
    | none => rfl
    | some q => obtain ⟨a, b, c⟩ := (w3 q).mp e; obtain rfl := no q a c; exact absurd b h
  have hz' : szOf r = 1 ∨ szOf r = 2 ∨ szOf r = 3 ∨ szOf r = 4 := by omega
  unfold nextS
  rcases hz' with h | h | h | h
  · rw [(w1 r).mpr ⟨hr, h, hp⟩, h]
  · rw [n1 (by omega), (w2 r).mpr ⟨hr, h, hp⟩, h]
  · rw [n1 (by omega), n2 (by omega), (w3 r).mpr ⟨hr, h, hp⟩, h]
  · rw [n1 (by omega), n2 (by omega), n3 (by omega), (w4 r).mpr ⟨hr, h, hp⟩, h]
theorem next_bad {s : List Int} (hs : Bytes s) (h : ∀ r, mayB r = true → ¬ putOf r <+: s) : nextS s = (-1, 1) := by
  have n1 : wayOf s 1 0 = none := by
    cases e : wayOf s 1 0 with
    | none => rfl
    | some q => obtain ⟨a, b, c⟩ := (way1_iff s q hs).mp e; exact absurd c (h q a)
  have n2 : wayOf s 2 192 = none := by
    cases e : wayOf s 2 192 with
    | none => rfl
    | some q => obtain ⟨a, b, c⟩ := (way2_iff s q hs).mp e; exact absurd c (h q a)
  have n3 : wayOf s 3 224 = none := by
    cases e : wayOf s 3 224 with
    | none => rfl
    | some q => obtain ⟨a, b, c⟩ := (way3_iff s q hs).mp e; exact absurd c (h q a)
  have n4 : wayOf s 4 240 = none := by
    cases e : wayOf s 4 240 with
    | none => rfl
    | some q => obtain ⟨a, b, c⟩ := (way4_iff s q hs).mp e; exact absurd c (h q a)
  unfold nextS
  rw [n1, n2, n3, n4]
/-- Some scalar's bytes go on, or none's. -/
theorem next_cases (s : List Int) (hs : Bytes s) : (∃ r, mayB r = true ∧ putOf r <+: s ∧ nextS s = (r, szOf r)) ∨ ((∀ r, mayB r = true → ¬ putOf r <+: s) ∧ nextS s = (-1, 1)) := by
  by_cases h : ∃ r, mayB r = true ∧ putOf r <+: s
  · obtain ⟨r, h1, h2⟩ := h
    exact .inl ⟨r, h1, h2, next_scalar hs h1 h2⟩
  · have h' : ∀ r, mayB r = true → ¬ putOf r <+: s := fun r h1 h2 => h ⟨r, h1, h2⟩
    exact .inr ⟨h', next_bad hs h'⟩
theorem next_len (s : List Int) (hs : Bytes s) (hne : s ≠ []) : 1 ≤ (nextS s).2 ∧ (nextS s).2 ≤ 4 ∧ (nextS s).2 ≤ (s.length : Int) := by
  have hl : 0 < s.length := List.length_pos_iff.mpr hne
  rcases next_cases s hs with ⟨r, h1, h2, h3⟩ | ⟨_, h3⟩
  · rw [h3]
    have := sz_range r
    have := h2.length_le
    have := put_len r
    simp only
    omega
  · rw [h3]; simp only; omega
theorem next_fst (s : List Int) (hs : Bytes s) : (nextS s).1 = -1 ∧ (nextS s).2 = 1 ∨ mayB (nextS s).1 = true ∧ putOf (nextS s).1 <+: s ∧ (nextS s).2 = szOf (nextS s).1 := by
  rcases next_cases s hs with ⟨r, h1, h2, h3⟩ | ⟨_, h3⟩
  · rw [h3]; exact .inr ⟨h1, h2, rfl⟩
  · rw [h3]; exact .inl ⟨rfl, rfl⟩
theorem next_ascii (a : Int) (t : List Int) (hs : Bytes (a :: t)) (ha : a < 128) : nextS (a :: t) = (a, 1) := by
  have h0 := hs a (by simp)
  have hm : mayB a = true := (mayB_iff a).mpr (by omega)
  have hp : putOf a = [a] := by unfold putOf; rw [if_pos ha]
  have hz : szOf a = 1 := by unfold szOf; rw [if_pos ha]
  rw [next_scalar hs hm (by rw [hp]; simp), hz]
theorem next_head (a : Int) (t : List Int) (hs : Bytes (a :: t)) (ha : 128 ≤ a) (hb : a ≤ 193 ∨ 245 ≤ a) : nextS (a :: t) = (-1, 1) := by
  refine next_bad hs fun r hr hp => ?_
  obtain ⟨b, u, eb, hb⟩ := put_head hr
  obtain ⟨v, ev⟩ := hp
  rw [eb] at ev
  injection ev with e1 e2
  omega
/-- What goes on stays so where what is behind it is cut off. -/
theorem next_take (s : List Int) (hs : Bytes s) (m : Nat) (hm : (nextS s).2 ≤ (m : Int)) : nextS (s.take m) = nextS s := by
  rcases next_cases s hs with ⟨r, h1, h2, h3⟩ | ⟨h1, h3⟩
  · rw [h3] at hm
    have hl : (putOf r).length ≤ m := by have := put_len r; simp only at hm; omega
    rw [h3]
    exact next_scalar (hs.take m) h1 (List.prefix_take_iff.mpr ⟨h2, hl⟩)
  · rw [h3]
    exact next_bad (hs.take m) fun r hr hp => h1 r hr (hp.trans (List.take_prefix m s))
theorem next_append (r : Int) (hr : mayB r = true) (t : List Int) (ht : Bytes t) : nextS (putOf r ++ t) = (r, szOf r) := next_scalar ((put_bytes hr).append ht) hr (List.prefix_append _ _)

/-! How many units bytes are. -/
def unitsN : Nat → List Int → Int
  | 0, _ => 0
  | k + 1, s => if s = [] then 0 else 1 + unitsN k (s.drop (nextS s).2.toNat)
def unitsOf (s : List Int) : Int := unitsN s.length s
theorem units_fuel : ∀ (k : Nat) (s : List Int), Bytes s → s.length ≤ k → unitsN k s = unitsOf s
  | 0, s, _, h => by
    obtain rfl : s = [] := List.eq_nil_of_length_eq_zero (by omega)
    rfl
  | k + 1, s, hs, h => by
    by_cases hne : s = []
    · subst hne; rfl
    · have hl := next_len s hs hne
      have hlt : (s.drop (nextS s).2.toNat).length < s.length := by rw [List.length_drop]; omega
      obtain ⟨m, hm⟩ : ∃ m, s.length = m + 1 := ⟨s.length - 1, by omega⟩
      unfold unitsOf
      rw [hm]
      simp only [unitsN]
      rw [if_neg hne, if_neg hne, units_fuel k _ (hs.drop _) (by omega), units_fuel m _ (hs.drop _) (by omega)]
theorem units_nil : unitsOf [] = 0 := rfl
theorem units_step (s : List Int) (hs : Bytes s) (hne : s ≠ []) : unitsOf s = 1 + unitsOf (s.drop (nextS s).2.toNat) := by
  have hl := next_len s hs hne
  obtain ⟨m, hm⟩ : ∃ m, s.length = m + 1 := ⟨s.length - 1, by omega⟩
  have hlt : (s.drop (nextS s).2.toNat).length < s.length := by rw [List.length_drop]; omega
  conv => lhs; unfold unitsOf
  rw [hm]
  simp only [unitsN]
  rw [if_neg hne, units_fuel m _ (hs.drop _) (by omega)]
theorem units_bounds : ∀ (n : Nat) (s : List Int), s.length ≤ n → Bytes s → 0 ≤ unitsOf s ∧ unitsOf s ≤ (s.length : Int) ∧ (s.length : Int) ≤ 4 * unitsOf s
  | 0, s, h, _ => by
    obtain rfl : s = [] := List.eq_nil_of_length_eq_zero (by omega)
    decide
  | n + 1, s, h, hs => by
    by_cases hne : s = []
    · subst hne; decide
    · have hl := next_len s hs hne
      have hlt : (s.drop (nextS s).2.toNat).length = s.length - (nextS s).2.toNat := List.length_drop
      have ih := units_bounds n (s.drop (nextS s).2.toNat) (by omega) (hs.drop _)
      rw [units_step s hs hne]
      omega
/-- Is it a place where a unit begins? -/
inductive Cut : List Int → Nat → Prop
  | zero (s : List Int) : Cut s 0
  | step (s : List Int) (m : Nat) : s ≠ [] → Cut (s.drop (nextS s).2.toNat) m → Cut s ((nextS s).2.toNat + m)
theorem Cut.le {s : List Int} {m : Nat} (hs : Bytes s) (h : Cut s m) : m ≤ s.length := by
  induction h with
  | zero s => omega
  | step s m hne _ ih =>
    have hl := next_len s hs hne
    have := ih (hs.drop _)
    rw [List.length_drop] at this
    omega
theorem Cut.snoc {s : List Int} {m : Nat} (hs : Bytes s) (h : Cut s m) (hne : s.drop m ≠ []) : Cut s (m + (nextS (s.drop m)).2.toNat) := by
  induction h with
  | zero s =>
    rw [List.drop_zero] at hne ⊢
    have := Cut.step s 0 hne (Cut.zero _)
    rw [Nat.add_comm 0]
    exact this
  | step s m hne2 _ ih =>
    rw [← List.drop_drop] at hne ⊢
    have := Cut.step s _ hne2 (ih (hs.drop _) hne)
    rwa [← Nat.add_assoc] at this
theorem units_cut {s : List Int} {m : Nat} (hs : Bytes s) (h : Cut s m) : unitsOf s = unitsOf (s.take m) + unitsOf (s.drop m) := by
  induction h with
  | zero s => simp [units_nil]
  | step s m hne hc ih =>
    have hl := next_len s hs hne
    have hm := hc.le (hs.drop _)
    rw [List.length_drop] at hm
    have ht : nextS (s.take ((nextS s).2.toNat + m)) = nextS s := next_take s hs _ (by omega)
    have hne2 : s.take ((nextS s).2.toNat + m) ≠ [] := by
      intro e
      have := congrArg List.length e
      rw [List.length_take, List.length_nil] at this
      omega
    rw [units_step s hs hne, ih (hs.drop _), units_step _ (hs.take _) hne2, ht, List.drop_take, List.drop_drop, Nat.add_sub_cancel_left]
    omega
theorem units_put (r : Int) (hr : mayB r = true) (t : List Int) (ht : Bytes t) : unitsOf (putOf r ++ t) = 1 + unitsOf t := by
  have hne : putOf r ++ t ≠ [] := by simp [put_ne r]
  rw [units_step _ ((put_bytes hr).append ht) hne, next_append r hr t ht]
  have hl := put_length r
  simp only
  rw [← hl, List.drop_left]
/-- Bytes that go on, alone. -/
theorem conts_bad (s : List Int) (a : Int) (t : List Int) (e : s = a :: t) (ha : 128 ≤ a ∧ a < 192) : ∀ r, mayB r = true → ¬ putOf r <+: s := by
  intro r hr hp
  obtain ⟨b, u, eb, hb⟩ := put_head hr
  obtain ⟨v, ev⟩ := hp
  rw [eb, e] at ev
  injection ev with e1 e2
  omega
theorem units_conts : ∀ (s : List Int), Bytes s → (∀ x ∈ s, 128 ≤ x ∧ x < 192) → unitsOf s = (s.length : Int)
  | [], _, _ => rfl
  | a :: t, hs, h => by
    have hb := next_bad hs (conts_bad (a :: t) a t rfl (h a (by simp)))
    rw [units_step _ hs (by simp), hb]
    have ih := units_conts t (fun x hx => hs x (List.mem_cons_of_mem _ hx)) (fun x hx => h x (List.mem_cons_of_mem _ hx))
    simp only [Int.toNat_one, List.drop_succ_cons, List.drop_zero, List.length_cons]
    rw [ih]
    omega
end Go.Proofs.Ytcdahnkdongmdaa.All
