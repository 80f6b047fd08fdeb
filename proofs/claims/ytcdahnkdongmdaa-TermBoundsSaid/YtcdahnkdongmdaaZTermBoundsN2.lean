/- Texts of the claim TermBounds, merged, without what it does not use. -/
import Derived.Test.YtcdahnkdongmdaaZTermBoundsN1
namespace Go.Proofs.Ytcdahnkdongmdaa.All
open Go.RowKit
theorem put_head {r : Int} (h : mayB r = true) : ∃ a t, putOf r = a :: t ∧ ((a < 128 ∧ szOf r = 1) ∨ (194 ≤ a ∧ a < 224 ∧ szOf r = 2) ∨ (224 ≤ a ∧ a < 240 ∧ szOf r = 3) ∨ (240 ≤ a ∧ a < 245 ∧ szOf r = 4)) := by
  obtain ⟨h0, h1, h2⟩ := (mayB_iff r).mp h
  unfold putOf szOf
  by_cases c1 : r < 128
  · rw [if_pos c1, if_pos c1]; exact ⟨_, _, rfl, by omega⟩
  · rw [if_neg c1, if_neg c1]
    by_cases c2 : r < 2048
    · rw [if_pos c2, if_pos c2]; exact ⟨_, _, rfl, by omega⟩
    · rw [if_neg c2, if_neg c2]
      by_cases c3 : r < 65536
      · rw [if_pos c3, if_pos c3]; exact ⟨_, _, rfl, by omega⟩
      · rw [if_neg c3, if_neg c3]; exact ⟨_, _, rfl, by omega⟩
theorem put_inj {r q : Int} (hr : mayB r = true) (hq : mayB q = true) (h : putOf r = putOf q) : r = q := by
  obtain ⟨r0, r1, r2⟩ := (mayB_iff r).mp hr
  obtain ⟨q0, q1, q2⟩ := (mayB_iff q).mp hq
  have hl := congrArg List.length h
  rw [put_length, put_length] at hl
  have hs := sz_range r
  have hs' := sz_range q
  have hz : szOf r = szOf q := by omega
  unfold szOf at hz
  unfold putOf at h
  split at h <;> split at h <;> (try split at h) <;> (try split at h) <;> (try split at h) <;> (try split at h) <;> simp at h <;> omega
theorem put_prefix {r q : Int} {s : List Int} (hr : mayB r = true) (hq : mayB q = true) (h1 : putOf r <+: s) (h2 : putOf q <+: s) : r = q := by
  obtain ⟨a, t, ea, ha⟩ := put_head hr
  obtain ⟨b, u, eb, hb⟩ := put_head hq
  have hab : a = b := by
    obtain ⟨s1, e1⟩ := h1
    obtain ⟨s2, e2⟩ := h2
    rw [ea] at e1
    rw [eb] at e2
    rw [← e2] at e1
    injection e1
  subst hab
  have hz : szOf r = szOf q := by omega
  have hl : (putOf r).length = (putOf q).length := by rw [put_length, put_length, hz]
  exact put_inj hr hq ((List.prefix_of_prefix_length_le h1 h2 (by omega)).eq_of_length hl)
end Go.Proofs.Ytcdahnkdongmdaa.All
