/- Texts of the claim TermTells, merged, without what it does not use. -/
import Derived.Test.YtcdahnkdongmdaaZTermTellsM1
namespace Go.Proofs.Ytcdahnkdongmdaa.All
open Go.RowKit
def cont (c : Int) : Bool := decide (128 ≤ c) && decide (c < 192)
theorem cont_iff (c : Int) : cont c = true ↔ 128 ≤ c ∧ c < 192 := by simp [cont]
def szOf (r : Int) : Int := if r < 128 then 1 else if r < 2048 then 2 else if r < 65536 then 3 else 4
def conts : Int → List Int → Option Int
  | x, [] => some x
  | x, c :: cs => if cont c = true then conts (x * 64 + (c - 128)) cs else none
def wayOf (s : List Int) (n : Nat) (head : Int) : Option Int :=
  match s with
  | [] => none
  | a :: t => if t.length + 1 < n ∨ a < head then none else
    match conts (a - head) (t.take (n - 1)) with
    | some r => if mayB r = true ∧ szOf r = n then some r else none
    | none => none
def nextS (s : List Int) : Int × Int :=
  match wayOf s 1 0 with
  | some r => (r, 1)
  | none => match wayOf s 2 192 with
    | some r => (r, 2)
    | none => match wayOf s 3 224 with
      | some r => (r, 3)
      | none => match wayOf s 4 240 with
        | some r => (r, 4)
        | none => (-1, 1)
def nextOf (l : List Int) (a : Int) : Int × Int := if a < 0 then (-1, 0) else if a ≥ (l.length : Int) then (-1, 0) else nextS (l.drop a.toNat)
def Bytes (l : List Int) : Prop := ∀ x ∈ l, 0 ≤ x ∧ x ≤ 255
theorem Bytes.drop {l : List Int} (h : Bytes l) (n : Nat) : Bytes (l.drop n) := fun x hx => h x (List.mem_of_mem_drop hx)
theorem Bytes.take {l : List Int} (h : Bytes l) (n : Nat) : Bytes (l.take n) := fun x hx => h x (List.mem_of_mem_take hx)
theorem Bytes.of_wf {l : List Int} (h : ∀ x ∈ l, (Lit.int .u8 x).wf = true) : Bytes l := fun x hx => by
  have := h x hx
  simpa [Lit.wf, IntKind.min, IntKind.max, IntKind.signed, IntKind.bits] using this
theorem put_length (r : Int) : (putOf r).length = (szOf r).toNat := by
  unfold putOf szOf
  split
  · rfl
  · split
    · rfl
    · split <;> rfl
theorem put_len (r : Int) : ((putOf r).length : Int) = szOf r := by
  unfold putOf szOf
  split
  · rfl
  · split
    · rfl
    · split <;> rfl
theorem sz_range (r : Int) : 1 ≤ szOf r ∧ szOf r ≤ 4 := by unfold szOf; split <;> (try split) <;> (try split) <;> omega
theorem put_bytes {r : Int} (h : mayB r = true) : Bytes (putOf r) := by
  obtain ⟨h0, h1, h2⟩ := (mayB_iff r).mp h
  intro x hx
  unfold putOf at hx
  split at hx
  · simp at hx; omega
  · split at hx
    · simp at hx; omega
    · split at hx
      · simp at hx; omega
      · simp at hx; omega
theorem put_ne (r : Int) : putOf r ≠ [] := by
  intro h
  have h1 := put_len r
  rw [h] at h1
  have := sz_range r
  simp at h1
  omega
theorem way1_iff (s : List Int) (r : Int) (hs : Bytes s) : wayOf s 1 0 = some r ↔ mayB r = true ∧ szOf r = 1 ∧ putOf r <+: s := by
  match s with
  | [] => simp [wayOf]; intro _ _; exact put_ne r
  | a :: t =>
    have ha := hs a (by simp)
    simp only [wayOf, Nat.sub_self, List.take_zero, conts]
    rw [if_neg (by omega)]
    constructor
    · intro h
      split at h
      · rename_i hc
        obtain rfl := Option.some.inj h
        refine ⟨hc.1, by simpa using hc.2, ?_⟩
        have h2 : szOf (a - 0) = 1 := by simpa using hc.2
        have : a < 128 := by unfold szOf at h2; split at h2 <;> (try split at h2) <;> (try split at h2) <;> omega
        unfold putOf
        rw [if_pos (by omega)]
        simp
      · cases h
    · rintro ⟨h1, h2, h3⟩
      have h4 : r < 128 := by unfold szOf at h2; split at h2 <;> (try split at h2) <;> (try split at h2) <;> omega
      unfold putOf at h3
      rw [if_pos h4] at h3
      simp at h3
      subst h3
      simp [h1, h2]
theorem way2_iff (s : List Int) (r : Int) (hs : Bytes s) : wayOf s 2 192 = some r ↔ mayB r = true ∧ szOf r = 2 ∧ putOf r <+: s := by
  have key : szOf r = 2 → 128 ≤ r ∧ r < 2048 := by intro h2; unfold szOf at h2; split at h2 <;> (try split at h2) <;> (try split at h2) <;> omega
  match s with
  | [] => simp [wayOf]; intro _ _; exact put_ne r
  | [a] =>
    simp only [wayOf]
    rw [if_pos (by simp)]
    constructor
    · intro h; cases h
    · rintro ⟨h1, h2, h3⟩
      have := h3.length_le
      have := put_len r
      simp at *
      omega
  | a :: b :: t =>
    have ha := hs a (by simp)
    have hb := hs b (by simp)
    by_cases hh : a < 192
    · simp only [wayOf]
      rw [if_pos (.inr hh)]
      constructor
      · intro h; cases h
      · rintro ⟨h1, h2, h3⟩
        have k := key h2
        unfold putOf at h3
        rw [if_neg (by omega), if_pos (by omega)] at h3
        simp at h3
        omega
    · simp only [wayOf, Nat.reduceSub, List.take_succ_cons, List.take_zero, conts]
      rw [if_neg (by simp; omega)]
      by_cases hc : cont b = true
      · rw [if_pos hc]
        have hc' := (cont_iff b).mp hc
        simp only
        constructor
        · intro h
          split at h
          · rename_i hm
            obtain rfl := Option.some.inj h
            have k := key (by simpa using hm.2)
            refine ⟨hm.1, by simpa using hm.2, ?_⟩
            unfold putOf
            rw [if_neg (by omega), if_pos (by omega)]
            simp
            omega
          · cases h
        · rintro ⟨h1, h2, h3⟩
          have k := key h2
          unfold putOf at h3
          rw [if_neg (by omega), if_pos (by omega)] at h3
          simp at h3
          have e : (a - 192) * 64 + (b - 128) = r := by omega
          rw [e, if_pos ⟨h1, by simpa using h2⟩]
      · rw [if_neg hc]
        simp only
        constructor
        · intro h; cases h
        · rintro ⟨h1, h2, h3⟩
          have k := key h2
          unfold putOf at h3
          rw [if_neg (by omega), if_pos (by omega)] at h3
          simp at h3
          exact absurd ((cont_iff b).mpr (by omega)) hc
theorem way3_iff (s : List Int) (r : Int) (hs : Bytes s) : wayOf s 3 224 = some r ↔ mayB r = true ∧ szOf r = 3 ∧ putOf r <+: s := by
  have key : szOf r = 3 → 2048 ≤ r ∧ r < 65536 := by intro h2; unfold szOf at h2; split at h2 <;> (try split at h2) <;> (try split at h2) <;> omega
  match s with
  | [] => simp [wayOf]; intro _ _; exact put_ne r
  | [a] =>
    simp only [wayOf]
    rw [if_pos (by simp)]
    constructor
    · intro h; cases h
    · rintro ⟨h1, h2, h3⟩
      have := h3.length_le
      have := put_len r
      simp at *
      omega
  | [a, b] =>
    simp only [wayOf]
    rw [if_pos (by simp)]
    constructor
    · intro h; cases h
    · rintro ⟨h1, h2, h3⟩
      have := h3.length_le
      have := put_len r
      simp at *
      omega
  | a :: b :: c :: t =>
    have ha := hs a (by simp)
    have hb := hs b (by simp)
    have hc0 := hs c (by simp)
    by_cases hh : a < 224
    · simp only [wayOf]
      rw [if_pos (.inr hh)]
      constructor
      · intro h; cases h
      · rintro ⟨h1, h2, h3⟩
        have k := key h2
        unfold putOf at h3
        rw [if_neg (by omega), if_neg (by omega), if_pos (by omega)] at h3
        simp at h3
        omega
    · simp only [wayOf, Nat.reduceSub, List.take_succ_cons, List.take_zero, conts]
      rw [if_neg (by simp; omega)]
      by_cases hc : cont b = true ∧ cont c = true
      · rw [if_pos hc.1, if_pos hc.2]
        have hb' := (cont_iff b).mp hc.1
        have hc' := (cont_iff c).mp hc.2
        simp only
        constructor
        · intro h
          split at h
          · rename_i hm
            obtain rfl := Option.some.inj h
            have k := key (by simpa using hm.2)
            refine ⟨hm.1, by simpa using hm.2, ?_⟩
            unfold putOf
            rw [if_neg (by omega), if_neg (by omega), if_pos (by omega)]
            simp
            omega
          · cases h
        · rintro ⟨h1, h2, h3⟩
          have k := key h2
          unfold putOf at h3
          rw [if_neg (by omega), if_neg (by omega), if_pos (by omega)] at h3
          simp at h3
          have e : ((a - 224) * 64 + (b - 128)) * 64 + (c - 128) = r := by omega
          rw [e, if_pos ⟨h1, by simpa using h2⟩]
      · have e : (match (if cont b = true then if cont c = true then some (((a - 224) * 64 + (b - 128)) * 64 + (c - 128)) else none else none) with
            | some r => if mayB r = true ∧ szOf r = ((3 : Nat) : Int) then some r else none
            | none => none) = none := by
          by_cases h1 : cont b = true
          · rw [if_pos h1, if_neg (fun h2 => hc ⟨h1, h2⟩)]
          · rw [if_neg h1]
        rw [e]
        constructor
        · intro h; cases h
        · rintro ⟨h1, h2, h3⟩
          have k := key h2
          unfold putOf at h3
          rw [if_neg (by omega), if_neg (by omega), if_pos (by omega)] at h3
          simp at h3
          exact absurd ⟨(cont_iff b).mpr (by omega), (cont_iff c).mpr (by omega)⟩ hc
theorem way4_iff (s : List Int) (r : Int) (hs : Bytes s) : wayOf s 4 240 = some r ↔ mayB r = true ∧ szOf r = 4 ∧ putOf r <+: s := by
  have key : szOf r = 4 → 65536 ≤ r := by intro h2; unfold szOf at h2; split at h2 <;> (try split at h2) <;> (try split at h2) <;> omega
  match s with
  | [] => simp [wayOf]; intro _ _; exact put_ne r
  | [a] =>
    simp only [wayOf]
    rw [if_pos (by simp)]
    constructor
    · intro h; cases h
    · rintro ⟨h1, h2, h3⟩
      have := h3.length_le
      have := put_len r
      simp at *
      omega
  | [a, b] =>
    simp only [wayOf]
    rw [if_pos (by simp)]
    constructor
    · intro h; cases h
    · rintro ⟨h1, h2, h3⟩
      have := h3.length_le
      have := put_len r
      simp at *
      omega
  | [a, b, c] =>
    simp only [wayOf]
    rw [if_pos (by simp)]
    constructor
    · intro h; cases h
    · rintro ⟨h1, h2, h3⟩
      have := h3.length_le
      have := put_len r
      simp at *
      omega
  | a :: b :: c :: d :: t =>
    have ha := hs a (by simp)
    have hb := hs b (by simp)
    have hc0 := hs c (by simp)
    have hd0 := hs d (by simp)
    by_cases hh : a < 240
    · simp only [wayOf]
      rw [if_pos (.inr hh)]
      constructor
      · intro h; cases h
      · rintro ⟨h1, h2, h3⟩
        have k := key h2
        unfold putOf at h3
        rw [if_neg (by omega), if_neg (by omega), if_neg (by omega)] at h3
        simp at h3
        have := (mayB_iff r).mp h1
        omega
    · simp only [wayOf, Nat.reduceSub, List.take_succ_cons, List.take_zero, conts]
      rw [if_neg (by simp; omega)]
      by_cases hc : cont b = true ∧ cont c = true ∧ cont d = true
      · rw [if_pos hc.1, if_pos hc.2.1, if_pos hc.2.2]
        have hb' := (cont_iff b).mp hc.1
        have hc' := (cont_iff c).mp hc.2.1
        have hd' := (cont_iff d).mp hc.2.2
        simp only
        constructor
        · intro h
          split at h
          · rename_i hm
            obtain rfl := Option.some.inj h
            have k := key (by simpa using hm.2)
            refine ⟨hm.1, by simpa using hm.2, ?_⟩
            unfold putOf
            rw [if_neg (by omega), if_neg (by omega), if_neg (by omega)]
            simp
            omega
          · cases h
        · rintro ⟨h1, h2, h3⟩
          have k := key h2
          unfold putOf at h3
          rw [if_neg (by omega), if_neg (by omega), if_neg (by omega)] at h3
          simp at h3
          have e : (((a - 240) * 64 + (b - 128)) * 64 + (c - 128)) * 64 + (d - 128) = r := by omega
          rw [e, if_pos ⟨h1, by simpa using h2⟩]
      · have e : (match (if cont b = true then if cont c = true then if cont d = true then some ((((a - 240) * 64 + (b - 128)) * 64 + (c - 128)) * 64 + (d - 128)) else none else none else none) with
            | some r => if mayB r = true ∧ szOf r = ((4 : Nat) : Int) then some r else none
            | none => none) = none := by
          by_cases h1 : cont b = true
          · rw [if_pos h1]
            by_cases h2 : cont c = true
            · rw [if_pos h2, if_neg (fun h3 => hc ⟨h1, h2, h3⟩)]
            · rw [if_neg h2]
          · rw [if_neg h1]
        rw [e]
        constructor
        · intro h; cases h
        · rintro ⟨h1, h2, h3⟩
          have k := key h2
          unfold putOf at h3
          rw [if_neg (by omega), if_neg (by omega), if_neg (by omega)] at h3
          simp at h3
          exact absurd ⟨(cont_iff b).mpr (by omega), (cont_iff c).mpr (by omega), (cont_iff d).mpr (by omega)⟩ hc
end Go.Proofs.Ytcdahnkdongmdaa.All
