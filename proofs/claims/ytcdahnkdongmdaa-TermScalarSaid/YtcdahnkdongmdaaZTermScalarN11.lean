/- Texts of the claim TermScalar, merged, without what it does not use. -/
import Derived.Test.YtcdahnkdongmdaaZTermScalarX5
import Derived.Test.YtcdahnkdongmdaaZTermScalarX14
import Derived.Test.YtcdahnkdongmdaaZTermScalarX15
import Derived.Test.YtcdahnkdongmdaaZTermScalarN1
namespace Go.Proofs.Ytcdahnkdongmdaa.Pure
set_option linter.unusedVariables false
set_option linter.unusedSimpArgs false
set_option linter.unnecessarySimpa false
open Go.RowKit Go.Proofs.Ytcdahnkdongmdaa.All Go.Proofs.YtcdahnkdongmdaaW.PrintWords Go.Proofs.YtcdahnkdongmdaaW.PrintLast
theorem may_f (r : Int) : utf_May.f r = some (mayB r) := by
  unfold utf_May.f mayB
  by_cases h0 : r ≥ 0
  · rw [if_pos h0]
    by_cases h1 : r ≤ 1114111
    · rw [if_pos h1]
      by_cases h2 : r < 55296
      · rw [if_pos h2]; simp [h0, h1, h2]
      · rw [if_neg h2]; simp [h0, h1, h2]
    · rw [if_neg h1]; simp [h1]
  · rw [if_neg h0]; simp [h0]
theorem size_f (r : Int) : utf_size.f r = some (szOf r) := by
  unfold utf_size.f szOf
  by_cases h1 : r < 128
  · rw [if_pos h1, if_pos h1]
  · rw [if_neg h1, if_neg h1]
    by_cases h2 : r < 2048
    · rw [if_pos h2, if_pos h2]
    · rw [if_neg h2, if_neg h2]
      by_cases h3 : r < 65536
      · rw [if_pos h3, if_pos h3]
      · rw [if_neg h3, if_neg h3]
theorem drop_rd (l : List Int) (i : Int) (h0 : 0 ≤ i) (h1 : i < (l.length : Int)) : l.drop i.toNat = rd l i :: l.drop (i.toNat + 1) := by
  have h : i.toNat < l.length := by omega
  rw [List.drop_eq_getElem_cons h]
  simp [rd, List.getD_eq_getElem?_getD, List.getElem?_eq_getElem h]
theorem rd_mem (l : List Int) (i : Int) (h0 : 0 ≤ i) (h1 : i < (l.length : Int)) : rd l i ∈ l := by
  have h : i.toNat < l.length := by omega
  simp [rd, List.getD_eq_getElem?_getD, List.getElem?_eq_getElem h]
theorem wrap_in (n : Int) (h0 : -9223372036854775808 ≤ n) (h1 : n ≤ 9223372036854775807) : wrap64 n = n := IntWalk.wrap64_in n ⟨h0, h1⟩
theorem part_l0 (n : Int) (ys : List Int) (hy : Bytes ys) (hlen : ys.length ≤ 4) : ∀ (d k : Nat) (x i : Int), 0 ≤ i → i + d = ys.length → d < k → 0 ≤ x → (x + 1) * 64 ^ d ≤ 1099511627776 →
    ∃ p, utf_part_of.l0 k n x ys (ys.length : Int) i = some (p, match conts x (ys.drop i.toNat) with | some r => mayB r && decide (szOf r = n) | none => false) ∧ ∀ r, conts x (ys.drop i.toNat) = some r → p = r
  | 0, k, x, i, h0, hd, hk, hx, hb => by
    obtain ⟨k, rfl⟩ : ∃ m, k = m + 1 := ⟨k - 1, by omega⟩
    have hn : ¬ i < (ys.length : Int) := by omega
    rw [List.drop_eq_nil_of_le (by omega)]
    refine ⟨x, ?_, fun r h => by simpa [conts] using h⟩
    simp only [utf_part_of.l0]
    rw [if_neg hn, may_f]
    simp only [Option.bind_some, conts]
    by_cases hm : mayB x = true
    · rw [if_pos hm, size_f]; simp only [Option.bind_some, hm, Bool.true_and]; by_cases e : szOf x = n <;> simp [e]
    · rw [if_neg hm]; simp [hm]
  | d + 1, k, x, i, h0, hd, hk, hx, hb => by
    obtain ⟨k, rfl⟩ : ∃ m, k = m + 1 := ⟨k - 1, by omega⟩
    have hlt : i < (ys.length : Int) := by omega
    have hm := hy _ (rd_mem ys i h0 hlt)
    have hpow : (1 : Int) ≤ 64 ^ d := by
      have : (0 : Int) < 64 ^ d := Int.pow_pos (by decide)
      omega
    have hb2 : (x + 1) * 64 ≤ (x + 1) * 64 ^ (d + 1) := by
      rw [Int.pow_succ, Int.mul_comm (64 ^ d) 64, ← Int.mul_assoc]
      have := Int.mul_le_mul_of_nonneg_left hpow (show 0 ≤ (x + 1) * 64 by omega)
      omega
    have hx2 : x * 64 < 1099511627776 := by omega
    rw [drop_rd ys i h0 hlt]
    simp only [conts]
    by_cases hc : cont (rd ys i) = true
    · have hc' := (cont_iff _).mp hc
      have hg := (u8_goes (rd ys i) (by omega) (by omega)).mpr hc'
      have hv : Go.bits .or .i64 (wrap64 (x * 64)) (wrap64 (Go.bits .and .u8 (rd ys i) 63)) = x * 64 + (rd ys i - 128) := by
        rw [u8_and63 _ (by omega) (by omega), wrap_in _ (by omega) (by omega), wrap_in _ (by omega) (by omega), i64_or6 _ _ (by omega) (by omega) (by omega) (by omega) (by omega)]
        omega
      have hb3 : (x * 64 + (rd ys i - 128) + 1) * 64 ^ d ≤ 1099511627776 := by
        have e : (x + 1) * 64 ^ (d + 1) = ((x + 1) * 64) * 64 ^ d := by rw [Int.pow_succ, Int.mul_comm (64 ^ d) 64, ← Int.mul_assoc]
        rw [e] at hb
        exact Int.le_trans (Int.mul_le_mul_of_nonneg_right (by omega) (by omega)) hb
      obtain ⟨p, hp, hq⟩ := part_l0 n ys hy hlen d k (x * 64 + (rd ys i - 128)) (i + 1) (by omega) (by omega) (by omega) (by omega) hb3
      have hi : (i + 1).toNat = i.toNat + 1 := by omega
      rw [hi] at hp hq
      rw [if_pos hc]
      refine ⟨p, ?_, hq⟩
      simp only [utf_part_of.l0]
      rw [if_pos hlt, if_pos h0, if_pos hlt, if_pos hg, hv, wrap_in (i + 1) (by omega) (by omega)]
      exact hp
    · have hg : ¬ Go.bits .andNot .u8 (rd ys i) 63 = 128 := fun h => hc ((cont_iff _).mpr ((u8_goes _ (by omega) (by omega)).mp h))
      rw [if_neg hc]
      refine ⟨0, ?_, fun r h => by cases h⟩
      simp only [utf_part_of.l0]
      rw [if_pos hlt, if_pos h0, if_pos hlt, if_neg hg]
theorem part_f (s : List Int) (hs : Bytes s) (hne : s ≠ []) (hlen : s.length ≤ maxLen) (n : Nat) (head : Int) (k : Nat) (hn : 1 ≤ n ∧ n ≤ 4) (hh : 0 ≤ head ∧ head ≤ 240) (hk : 6 ≤ k) :
    ∃ p, utf_part_of.f k s (n : Int) head = some (p, (wayOf s n head).isSome) ∧ ∀ r, wayOf s n head = some r → p = r := by
  obtain ⟨k, rfl⟩ : ∃ m, k = m + 1 := ⟨k - 1, by omega⟩
  unfold maxLen at hlen
  match s, hne with
  | a :: t, _ =>
    have ha := hs a (by simp)
    have h0 : (0 : Int) < ((a :: t).length : Int) := by simp
    have hr0 : rd (a :: t) 0 = a := by simp [rd]
    simp only [wayOf]
    unfold utf_part_of.f
    by_cases c1 : (n : Int) > ((a :: t).length : Int)
    · rw [if_pos c1, if_pos (.inl (by simp at c1; omega))]
      exact ⟨0, by simp [utf_part_of.j0], fun r h => by cases h⟩
    · have c1' : ¬ t.length + 1 < n := by simp at c1; omega
      rw [if_neg c1, if_pos h0, hr0, wrap_in a (by omega) (by omega)]
      by_cases c2 : a < head
      · rw [if_pos (.inr c2), decide_eq_true c2]
        exact ⟨0, by simp [utf_part_of.j0], fun r h => by cases h⟩
      · rw [if_neg (by omega), decide_eq_false c2]
        have hl2 : (((a :: t).take (n : Int).toNat).drop 1) = t.take (n - 1) := by
          obtain ⟨m, rfl⟩ : ∃ m, n = m + 1 := ⟨n - 1, by omega⟩
          simp
        have hbt : Bytes (t.take (n - 1)) := fun x hx => hs x (List.mem_cons_of_mem _ (List.mem_of_mem_take hx))
        have hl3 : (t.take (n - 1)).length = n - 1 := by rw [List.length_take]; omega
        obtain ⟨p, hp, hq⟩ := part_l0 n (t.take (n - 1)) hbt (by omega) (n - 1) k (a - head) 0 (by omega) (by omega) (by omega) (by omega) (by
          have h64 : (64 : Int) ^ (n - 1) ≤ 262144 := by
            have : n - 1 = 0 ∨ n - 1 = 1 ∨ n - 1 = 2 ∨ n - 1 = 3 := by omega
            rcases this with h | h | h | h <;> rw [h] <;> decide
          have : (a - head + 1) * 64 ^ (n - 1) ≤ 256 * 64 ^ (n - 1) := Int.mul_le_mul_of_nonneg_right (by omega) (Int.le_of_lt (Int.pow_pos (by decide)))
          omega)
        simp only [Int.toNat_zero, List.drop_zero] at hp hq
        refine ⟨p, ?_, fun r h => hq r ?_⟩
        · simp only [utf_part_of.j0]
          rw [if_neg (by decide), if_pos h0, if_pos (by omega), if_pos (by omega), hl2, hr0, wrap_in a (by omega) (by omega), wrap_in _ (by omega) (by omega)]
          simp only [Option.bind_some]
          rw [hp]
          congr 2
          cases hc : conts (a - head) (t.take (n - 1)) with
          | none => rfl
          | some q =>
            simp only
            by_cases hm : mayB q = true ∧ szOf q = n
            · rw [if_pos hm]; simp [hm.1, hm.2]
            · rw [if_neg hm]
              by_cases h1 : mayB q = true
              · have h2 : ¬ szOf q = n := fun h2 => hm ⟨h1, h2⟩
                simp [h1, h2]
              · simp [h1]
        · cases hc : conts (a - head) (t.take (n - 1)) with
          | none => rw [hc] at h; cases h
          | some q =>
            rw [hc] at h
            simp only at h
            split at h
            · exact h
            · cases h
theorem one_f (k : Nat) (s : List Int) : utf_part_one.f k s = (utf_part_of.f k s 1 0) := by
  unfold utf_part_one.f
  cases h : utf_part_of.f k s 1 0 <;> simp
theorem next_f (l : List Int) (a : Int) (hs : Bytes l) (hlen : l.length ≤ maxLen) : utf_Next.f l a = some (nextOf l a) := by
  unfold utf_Next.f nextOf
  by_cases c1 : a < 0
  · rw [if_pos c1, if_pos c1]
  · rw [if_neg c1, if_neg c1]
    by_cases c2 : a ≥ (l.length : Int)
    · rw [if_pos c2, if_pos c2]
    · rw [if_neg c2, if_neg c2]
      have hsd := hs.drop a.toNat
      have hl2 : (l.drop a.toNat).length ≤ maxLen := by rw [List.length_drop]; omega
      have hne : l.drop a.toNat ≠ [] := by
        intro h
        have := List.drop_eq_nil_iff.mp h
        omega
      generalize l.drop a.toNat = s at *
      unfold nextS
      obtain ⟨p1, h1, q1⟩ := part_f s hsd hne hl2 1 0 10 (by omega) (by omega) (by omega)
      obtain ⟨p2, h2, q2⟩ := part_f s hsd hne hl2 2 192 10 (by omega) (by omega) (by omega)
      obtain ⟨p3, h3, q3⟩ := part_f s hsd hne hl2 3 224 10 (by omega) (by omega) (by omega)
      obtain ⟨p4, h4, q4⟩ := part_f s hsd hne hl2 4 240 10 (by omega) (by omega) (by omega)
      rw [one_f]
      rw [show ((1 : Nat) : Int) = 1 from rfl] at h1
      rw [show ((2 : Nat) : Int) = 2 from rfl] at h2
      rw [show ((3 : Nat) : Int) = 3 from rfl] at h3
      rw [show ((4 : Nat) : Int) = 4 from rfl] at h4
      rw [h1, h2, h3, h4]
      simp only [Option.bind_some]
      cases w1 : wayOf s 1 0 with
      | some r => simp [q1 r w1]
      | none =>
        cases w2 : wayOf s 2 192 with
        | some r => simp [q2 r w2]
        | none =>
          cases w3 : wayOf s 3 224 with
          | some r => simp [q3 r w3]
          | none =>
            cases w4 : wayOf s 4 240 with
            | some r => simp [q4 r w4]
            | none => simp
end Go.Proofs.Ytcdahnkdongmdaa.Pure
