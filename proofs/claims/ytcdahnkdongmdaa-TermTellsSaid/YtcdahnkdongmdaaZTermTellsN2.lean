/- Texts of the claim TermTells, merged, without what it does not use. -/
import Derived.Test.YtcdahnkdongmdaaZTermTellsN1
namespace Go.Proofs.Ytcdahnkdongmdaa.All
open Go.RowKit
theorem put_head {r : Int} (h : mayB r = true) : ∃ a t, putOf r = a :: t ∧ ((a < 128 ∧ szOf r = 1) ∨ (194 ≤ a ∧ a < 224 ∧ szOf r = 2) ∨ (224 ≤ a ∧ a < 240 ∧ szOf r = 3) ∨ (240 ≤ a ∧ a < 245 ∧ szOf r = 4)) := by
  obtain ⟨h0, h1, h2⟩ := (mayB_iff r).mp h
  unfold putOf szOf
  by_cases c1 : r < 128
  · rw [if_pos c1, if_pos c1]; exact ⟨_, _, rfl, by omega⟩
  · rw [if_neg c1, if_neg c1]
    by_cases c2 : r < 2048
    · rw [if_pos c2, if_pos c2]; exact ⟨_, _, rfl, by omega⟩
    · rw [if_neg c2, if_neg c2]
      by_cases c3 : r < 65536
      · rw [if_pos c3, if_pos c3]; exact ⟨_, _, rfl, by omega⟩
      · rw [if_neg c3, if_neg c3]; exact ⟨_, _, rfl, by omega⟩
theorem put_inj {r q : Int} (hr : mayB r = true) (hq : mayB q = true) (h : putOf r = putOf q) : r = q := by
  obtain ⟨r0, r1, r2⟩ := (mayB_iff r).mp hr
  obtain ⟨q0, q1, q2⟩ := (mayB_iff q).mp hq
  have hl := congrArg List.length h
  rw [put_length, put_length] at hl
  have hs := sz_range r
  have hs' := sz_range q
  have hz : szOf r = szOf q := by omega
  unfold szOf at hz
  unfold putOf at h
  split at h <;> split at h <;> (try split at h) <;> (try split at h) <;> (try split at h) <;> (try split at h) <;> simp at h <;> omega
theorem put_prefix {r q : Int} {s : List Int} (hr : mayB r = true) (hq : mayB q = true) (h1 : putOf r <+: s) (h2 : putOf q <+: s) : r = q := by
  obtain ⟨a, t, ea, ha⟩ := put_head hr
  obtain ⟨b, u, eb, hb⟩ := put_head hq
  have hab : a = b := by
    obtain ⟨s1, e1⟩ := h1
    obtain ⟨s2, e2⟩ := h2
    rw [ea] at e1
    rw [eb] at e2
    rw [← e2] at e1
    injection e1
  subst hab
  have hz : szOf r = szOf q := by omega
  have hl : (putOf r).length = (putOf q).length := by rw [put_length, put_length, hz]
  exact put_inj hr hq ((List.prefix_of_prefix_length_le h1 h2 (by omega)).eq_of_length hl)
theorem next_scalar {r : Int} {s : List Int} (hs : Bytes s) (hr : mayB r = true) (hp : putOf r <+: s) : nextS s = (r, szOf r) := by
  have w1 := fun q => way1_iff s q hs
  have w2 := fun q => way2_iff s q hs
  have w3 := fun q => way3_iff s q hs
  have w4 := fun q => way4_iff s q hs
  have hz := sz_range r
  have no : ∀ q, mayB q = true → putOf q <+: s → q = r := fun q h1 h2 => put_prefix h1 hr h2 hp
  have n1 : szOf r ≠ 1 → wayOf s 1 0 = none := fun h => by
    cases e : wayOf s 1 0 with
    | none => rfl
    | some q => obtain ⟨a, b, c⟩ := (w1 q).mp e; obtain rfl := no q a c; exact absurd b h
  have n2 : szOf r ≠ 2 → wayOf s 2 192 = none := fun h => by
    cases e : wayOf s 2 192 with
    | none => rfl
    | some q => obtain ⟨a, b, c⟩ := (w2 q).mp e; obtain rfl := no q a c; exact absurd b h
  have n3 : szOf r ≠ 3 → wayOf s 3 224 = none := fun h => by
    cases e : wayOf s 3 224 with
    | none => rfl
    | some q => obtain ⟨a, b, c⟩ := (w3 q).mp e; obtain rfl := no q a c; exact absurd b h
  have hz' : szOf r = 1 ∨ szOf r = 2 ∨ szOf r = 3 ∨ szOf r = 4 := by omega
  unfold nextS
  rcases hz' with h | h | h | h
  · rw [(w1 r).mpr ⟨hr, h, hp⟩, h]
  · rw [n1 (by omega), (w2 r).mpr ⟨hr, h, hp⟩, h]
  · rw [n1 (by omega), n2 (by omega), (w3 r).mpr ⟨hr, h, hp⟩, h]
  · rw [n1 (by omega), n2 (by omega), n3 (by omega), (w4 r).mpr ⟨hr, h, hp⟩, h]
theorem next_bad {s : List Int} (hs : Bytes s) (h : ∀ r, mayB r = true → ¬ putOf r <+: s) : nextS s = (-1, 1) := by
  have n1 : wayOf s 1 0 = none := by
    cases e : wayOf s 1 0 with
    | none => rfl
    | some q => obtain ⟨a, b, c⟩ := (way1_iff s q hs).mp e; exact absurd c (h q a)
  have n2 : wayOf s 2 192 = none := by
    cases e : wayOf s 2 192 with
    | none => rfl
    | some q => obtain ⟨a, b, c⟩ := (way2_iff s q hs).mp e; exact absurd c (h q a)
  have n3 : wayOf s 3 224 = none := by
    cases e : wayOf s 3 224 with
    | none => rfl
    | some q => obtain ⟨a, b, c⟩ := (way3_iff s q hs).mp e; exact absurd c (h q a)
  have n4 : wayOf s 4 240 = none := by
    cases e : wayOf s 4 240 with
    | none => rfl
    | some q => obtain ⟨a, b, c⟩ := (way4_iff s q hs).mp e; exact absurd c (h q a)
  unfold nextS
  rw [n1, n2, n3, n4]
theorem next_cases (s : List Int) (hs : Bytes s) : (∃ r, mayB r = true ∧ putOf r <+: s ∧ nextS s = (r, szOf r)) ∨ ((∀ r, mayB r = true → ¬ putOf r <+: s) ∧ nextS s = (-1, 1)) := by
  by_cases h : ∃ r, mayB r = true ∧ putOf r <+: s
  · obtain ⟨r, h1, h2⟩ := h
    exact .inl ⟨r, h1, h2, next_scalar hs h1 h2⟩
  · have h' : ∀ r, mayB r = true → ¬ putOf r <+: s := fun r h1 h2 => h ⟨r, h1, h2⟩
    exact .inr ⟨h', next_bad hs h'⟩
end Go.Proofs.Ytcdahnkdongmdaa.All
