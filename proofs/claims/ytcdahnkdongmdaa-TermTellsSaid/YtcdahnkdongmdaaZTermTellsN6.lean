/- Texts of the claim TermTells, merged, without what it does not use. -/
import Derived.Test.YtcdahnkdongmdaaZTermTellsX5
import Derived.Test.YtcdahnkdongmdaaZTermTellsN5
namespace Go.Proofs.Ytcdahnkdongmdaa.Pure
set_option linter.unusedVariables false
set_option linter.unusedSimpArgs false
set_option linter.unnecessarySimpa false
open Go.RowKit Go.Proofs.Ytcdahnkdongmdaa.All Go.Proofs.YtcdahnkdongmdaaW.PrintWords Go.Proofs.YtcdahnkdongmdaaW.PrintLast
open Own
theorem or_low (r i : Nat) (h : r < 2 ^ i) : r ||| (2 ^ i - 1) = 2 ^ i - 1 := by
  refine Nat.eq_of_testBit_eq fun j => ?_
  rw [Nat.testBit_or, Nat.testBit_two_pow_sub_one]
  by_cases hj : j < i
  · rw [decide_eq_true hj, Bool.or_true]
  · rw [decide_eq_false hj, Bool.or_false]
    exact Nat.testBit_lt_two_pow (Nat.lt_of_lt_of_le h (Nat.pow_le_pow_right (by decide) (by omega)))
theorem or_mask (a i : Nat) : a ||| (2 ^ i - 1) = 2 ^ i * (a / 2 ^ i) + (2 ^ i - 1) := by
  have hlt := Nat.mod_lt a (Nat.two_pow_pos i)
  have hm : 2 ^ i - 1 < 2 ^ i := Nat.sub_lt (Nat.two_pow_pos i) (by decide)
  have e : a = 2 ^ i * (a / 2 ^ i) ||| a % 2 ^ i := by rw [← Nat.two_pow_add_eq_or_of_lt hlt]; exact (Nat.div_add_mod a _).symm
  rw [Nat.two_pow_add_eq_or_of_lt hm]
  conv => lhs; rw [e]
  rw [Nat.or_assoc, or_low _ _ hlt]
theorem i64_or_mask (x : Int) (h0 : 0 ≤ x) (h1 : x < 4611686018427387904) (i : Nat) (b : Int) (hb : b = 2 ^ i) (hi : i ≤ 20) : Go.bits .or .i64 x (b - 1) = x - x % b + (b - 1) := by
  obtain ⟨a, rfl⟩ := Int.eq_ofNat_of_zero_le h0
  have hpos : 0 < 2 ^ i := Nat.two_pow_pos i
  have hc : (b - 1) = ((2 ^ i - 1 : Nat) : Int) := by rw [hb, Int.natCast_sub hpos]; simp
  have hm : 2 ^ i - 1 < 2 ^ 62 := Nat.lt_of_lt_of_le (Nat.sub_lt hpos (by decide)) (Nat.pow_le_pow_right (by decide) (by omega))
  rw [hc, (bits_nat .i64 62 (by decide) wraps_i64 a (2 ^ i - 1) (by omega) hm).2, or_mask]
  have hd : ((a % 2 ^ i : Nat) : Int) = (a : Int) % b := by rw [hb]; simp
  have := Nat.div_add_mod a (2 ^ i)
  rw [← hd]
  omega
theorem i64_andNot_nat (a b : Nat) (ha : a < 2 ^ 62) (hb : b < 2 ^ 62) : Go.bits .andNot .i64 (a : Int) (b : Int) = ((a &&& (2 ^ 64 - (b + 1)) : Nat) : Int) := by
  have ha' : a % 2 ^ 64 = a := Nat.mod_eq_of_lt (by omega)
  have hb' : b % 2 ^ 64 = b := Nat.mod_eq_of_lt (by omega)
  have hlt : a &&& (2 ^ 64 - (b + 1)) < 2 ^ 62 := Nat.lt_of_le_of_lt Nat.and_le_left ha
  have e : (BitVec.ofInt 64 (a : Int) &&& ~~~ BitVec.ofInt 64 (b : Int)).toNat = a &&& (2 ^ 64 - (b + 1)) := by
    rw [BitVec.toNat_and, BitVec.toNat_not, BitVec.ofInt_natCast, BitVec.ofInt_natCast, BitVec.toNat_ofNat, BitVec.toNat_ofNat, ha', hb']
    congr 1
    omega
  show IntKind.i64.wrap ((BitVec.ofInt 64 (a : Int) &&& ~~~ BitVec.ofInt 64 (b : Int)).toNat : Int) = _
  rw [e]
  exact wraps_i64 _ (Int.natCast_nonneg _) (by exact_mod_cast hlt)
theorem andNot_mask (a i : Nat) (ha : a < 2 ^ 62) (hi : i ≤ 20) : a &&& (2 ^ 64 - (2 ^ i - 1 + 1)) = 2 ^ i * (a / 2 ^ i) := by
  have hpos : 0 < 2 ^ i := Nat.two_pow_pos i
  have hle : 2 ^ i ≤ 2 ^ 20 := Nat.pow_le_pow_right (by decide) hi
  refine Nat.eq_of_testBit_eq fun j => ?_
  rw [Nat.testBit_and, Nat.testBit_two_pow_sub_succ (show 2 ^ i - 1 < 2 ^ 64 by omega), Nat.testBit_two_pow_sub_one, Nat.testBit_two_pow_mul, Nat.testBit_div_two_pow]
  by_cases hj : i ≤ j
  · rw [decide_eq_true (show j ≥ i from hj), decide_eq_false (show ¬ j < i by omega), show j - i + i = j by omega]
    by_cases h64 : j < 64
    · rw [decide_eq_true h64]; simp
    · rw [decide_eq_false h64, Nat.testBit_lt_two_pow (Nat.lt_of_lt_of_le ha (Nat.pow_le_pow_right (by decide) (by omega)))]; rfl
  · rw [decide_eq_false (show ¬ j ≥ i from hj), decide_eq_true (show j < i by omega)]; simp
theorem i64_andNot_mask (x : Int) (h0 : 0 ≤ x) (h1 : x < 4611686018427387904) (i : Nat) (b : Int) (hb : b = 2 ^ i) (hi : i ≤ 20) : Go.bits .andNot .i64 x (b - 1) = x - x % b := by
  obtain ⟨a, rfl⟩ := Int.eq_ofNat_of_zero_le h0
  have hpos : 0 < 2 ^ i := Nat.two_pow_pos i
  have hle : 2 ^ i ≤ 2 ^ 20 := Nat.pow_le_pow_right (by decide) hi
  have hc : (b - 1) = ((2 ^ i - 1 : Nat) : Int) := by rw [hb, Int.natCast_sub hpos]; simp
  rw [hc, i64_andNot_nat a (2 ^ i - 1) (by omega) (by omega), andNot_mask a i (by omega) hi]
  have hd : ((a % 2 ^ i : Nat) : Int) = (a : Int) % b := by rw [hb]; simp
  have := Nat.div_add_mod a (2 ^ i)
  rw [← hd]
  omega
structure Bits (a b : Int) : Prop where
  pos : 0 ≤ a
  b3 : b = 64 ∨ b = 4096 ∨ b = 262144
  low : wrap64 ((shl .i64 1 a) - 1) = b - 1
  right : ∀ x, shr .i64 x a = x / b
  and_ : ∀ x, 0 ≤ x → x ≤ 2000000 → Go.bits .and .i64 x (b - 1) = x % b
  or_ : ∀ x, 0 ≤ x → x ≤ 2000000 → Go.bits .or .i64 x (b - 1) = x - x % b + (b - 1)
  not_ : ∀ x, 0 ≤ x → x ≤ 2000000 → Go.bits .andNot .i64 x (b - 1) = x - x % b
theorem bits6 : Bits 6 64 := ⟨by decide, .inl rfl, by decide +kernel, fun x => by unfold shr; rfl, fun x h0 h1 => bits_mask .i64 62 (by decide) wraps_i64 6 (by decide) x h0 (by omega), fun x h0 h1 => i64_or_mask x h0 (by omega) 6 64 (by decide) (by decide), fun x h0 h1 => i64_andNot_mask x h0 (by omega) 6 64 (by decide) (by decide)⟩
theorem bits12 : Bits 12 4096 := ⟨by decide, .inr (.inl rfl), by decide +kernel, fun x => by unfold shr; rfl, fun x h0 h1 => bits_mask .i64 62 (by decide) wraps_i64 12 (by decide) x h0 (by omega), fun x h0 h1 => i64_or_mask x h0 (by omega) 12 4096 (by decide) (by decide), fun x h0 h1 => i64_andNot_mask x h0 (by omega) 12 4096 (by decide) (by decide)⟩
theorem bits18 : Bits 18 262144 := ⟨by decide, .inr (.inr rfl), by decide +kernel, fun x => by unfold shr; rfl, fun x h0 h1 => bits_mask .i64 62 (by decide) wraps_i64 18 (by decide) x h0 (by omega), fun x h0 h1 => i64_or_mask x h0 (by omega) 18 262144 (by decide) (by decide), fun x h0 h1 => i64_andNot_mask x h0 (by omega) 18 262144 (by decide) (by decide)⟩
theorem rd_dropq {l : List Rg} {i : Nat} (h : i < l.length) : l.drop i = rd_T35 l (i : Int) :: l.drop (i + 1) := by
  rw [List.drop_eq_getElem_cons h]
  simp [rd_T35, List.getD_eq_getElem?_getD, List.getElem?_eq_getElem h]
theorem wrq {x : Int} (h0 : -9223372036854775808 ≤ x) (h1 : x ≤ 9223372036854775807) : wrap64 x = x := by unfold wrap64; omega
theorem rd_memq {l : List Rg} {i : Nat} (h : i < l.length) : rd_T35 l (i : Int) ∈ l := by
  have e : rd_T35 l (i : Int) = l[i] := by simp [rd_T35, List.getD_eq_getElem?_getD, List.getElem?_eq_getElem h]
  rw [e]; exact List.getElem_mem h
theorem ite_len1 (c : Prop) [Decidable c] (a : Rg) : (if c then ([] : List Rg) else [a]).length ≤ 1 := by split <;> simp
theorem ite_len2 (c : Prop) [Decidable c] (a : Rg) : (if c then [a] else ([] : List Rg)).length ≤ 1 := by split <;> simp
theorem sp1_length (b : Int) (x : Rg) : (sp1 b x).length ≤ 3 := by
  unfold sp1
  by_cases c : x.f0 / b = x.f1 / b
  · rw [if_pos c]; simp
  · rw [if_neg c, List.length_append, List.length_append]
    refine Nat.le_trans (Nat.add_le_add (ite_len1 _ _) (Nat.add_le_add (ite_len2 _ _) (ite_len2 _ _))) (by omega)
theorem spB_length (b : Int) : ∀ l : List Rg, (spB b l).length ≤ 3 * l.length
  | [] => by simp [spB]
  | x :: t => by
    have h1 := sp1_length b x
    have h2 := spB_length b t
    unfold spB at *
    rw [List.flatMap_cons, List.length_append, List.length_cons]; omega
theorem split_l0 {a b : Int} (hB : Bits a b) (l : List Rg) (hl : l.length ≤ 1000) (hr : ∀ x ∈ l, 0 ≤ x.f0 ∧ x.f0 ≤ x.f1 ∧ x.f1 ≤ 1114111) : ∀ (d k i : Nat) (out : List Rg), i + d = l.length → 3 * d + 1 ≤ k → out.length + 3 * d ≤ 100000 →
    seqs_split.l0 k a out (b - 1) l (l.length : Int) (i : Int) = some (out ++ spB b (l.drop i))
  | d, 0, i, out, _, h, _ => by omega
  | 0, k + 1, i, out, h, _, _ => by
    simp only [seqs_split.l0]
    rw [if_neg (by omega), List.drop_eq_nil_of_le (by omega)]; simp [spB]
  | d + 1, 1, i, out, h, hk, _ => by omega
  | d + 1, 2, i, out, h, hk, _ => by omega
  | d + 1, k + 3, i, out, h, hk, ho => by
    have hnx : ∀ k' o, 3 * d + 1 ≤ k' → o.length + 3 * d ≤ 100000 → seqs_split.l0 k' a o (b - 1) l (l.length : Int) ((i : Int) + 1) = some (o ++ spB b (l.drop (i + 1))) := fun k' o hk' ho2 => by
      have := split_l0 hB l hl hr d k' (i + 1) o (by omega) hk' ho2
      rw [show ((i + 1 : Nat) : Int) = (i : Int) + 1 by omega] at this
      exact this
    have hxr := hr _ (rd_memq (show i < l.length by omega))
    have e : spB b (l.drop i) = sp1 b (rd_T35 l (i : Int)) ++ spB b (l.drop (i + 1)) := by
      rw [rd_dropq (show i < l.length by omega)]; unfold spB; rw [List.flatMap_cons]
    rw [e]
    rw [seqs_split.l0]
    simp only [seqs_split.j1, seqs_split.j2]
    rw [if_pos (by omega), if_pos (by omega), if_pos (by omega), if_pos hB.pos, hB.right, hB.right, wrq (x := (i : Int) + 1) (by omega) (by omega)]
    generalize rd_T35 l (i : Int) = x at *
    have hb3 := hB.b3
    unfold sp1
    by_cases c : x.f0 / b = x.f1 / b
    · rw [if_pos c, if_pos c, if_pos (by omega), hnx _ _ (by omega) (by simp; omega), List.append_assoc]
    · have w0 : wrap64 (x.f0 - x.f0 % b + (b - 1) + 1) = x.f0 - x.f0 % b + b := by rw [wrq (by rcases hb3 with rfl | rfl | rfl <;> omega) (by rcases hb3 with rfl | rfl | rfl <;> omega)]; omega
      have w1 : wrap64 (x.f1 - x.f1 % b - 1) = x.f1 - x.f1 % b - 1 := wrq (by rcases hb3 with rfl | rfl | rfl <;> omega) (by rcases hb3 with rfl | rfl | rfl <;> omega)
      have w2 : wrap64 (x.f1 - x.f1 % b - 1 + 1) = x.f1 - x.f1 % b - 1 + 1 := wrq (by rcases hb3 with rfl | rfl | rfl <;> omega) (by rcases hb3 with rfl | rfl | rfl <;> omega)
      have w3 : wrap64 (x.f1 + 1) = x.f1 + 1 := wrq (by omega) (by omega)
      rw [if_neg c, if_neg c, hB.and_ _ (by omega) (by omega), hB.and_ _ (by omega) (by omega), hB.or_ _ (by omega) (by omega), hB.not_ _ (by omega) (by omega), w0, w1, w2, w3]
      simp only [Option.bind_some]
      have l1 : ∀ (p : Rg), (out ++ [p]).length = out.length + 1 := fun p => by simp
      have l2 : ∀ (p q : Rg), (out ++ [p] ++ [q]).length = out.length + 2 := fun p q => by simp
      have l3 : ∀ (p q r : Rg), (out ++ [p] ++ [q] ++ [r]).length = out.length + 3 := fun p q r => by simp
      by_cases c1 : x.f0 % b = 0
      · simp only [c1, if_true, List.nil_append]
        by_cases c2 : x.f1 % b = b - 1
        · simp only [c2, if_true, Int.lt_irrefl, if_false, List.append_nil]
          by_cases c3 : x.f0 ≤ x.f1
          · rw [if_pos c3, if_pos (by omega), if_pos c3, hnx _ _ (by omega) (by rw [l1]; omega), List.append_assoc]
          · exact absurd hxr.2.1 c3
        · simp only [c2, if_false]
          have c4 : x.f1 - x.f1 % b - 1 < x.f1 := by rcases hb3 with rfl | rfl | rfl <;> omega
          by_cases c3 : x.f0 ≤ x.f1 - x.f1 % b - 1
          · simp only [if_pos c3, if_pos c4, l1]
            rw [if_pos (by omega), if_pos (by omega), hnx _ _ (by omega) (by rw [l2]; omega)]
            simp
          · simp only [if_neg c3, if_pos c4]
            rw [if_pos (by omega), hnx _ _ (by omega) (by rw [l1]; omega)]
            simp
      · simp only [c1, if_false]
        rw [if_pos (show out.length < 8796093022208 by omega)]
        by_cases c2 : x.f1 % b = b - 1
        · simp only [c2, if_true, Int.lt_irrefl, if_false, List.append_nil, l1]
          by_cases c3 : x.f0 - x.f0 % b + b ≤ x.f1
          · rw [if_pos c3, if_pos (by omega), if_pos c3, hnx _ _ (by omega) (by rw [l2]; omega)]
            simp
          · rw [if_neg c3, if_neg c3, hnx _ _ (by omega) (by rw [l1]; omega)]
            simp
        · simp only [c2, if_false, l1]
          have c4 : x.f1 - x.f1 % b - 1 < x.f1 := by rcases hb3 with rfl | rfl | rfl <;> omega
          by_cases c3 : x.f0 - x.f0 % b + b ≤ x.f1 - x.f1 % b - 1
          · simp only [if_pos c3, if_pos c4, l2]
            rw [if_pos (by omega), if_pos (by omega), hnx _ _ (by omega) (by rw [l3]; omega)]
            simp
          · simp only [if_neg c3, if_pos c4]
            rw [if_pos (by omega), hnx _ _ (by omega) (by rw [l2]; omega)]
            simp
theorem split_f {a b : Int} (hB : Bits a b) (l : List Rg) (hl : l.length ≤ 1000) (hr : ∀ x ∈ l, 0 ≤ x.f0 ∧ x.f0 ≤ x.f1 ∧ x.f1 ≤ 1114111) (k : Nat) (hk : 3 * l.length + 1 ≤ k) : seqs_split.f k a l = some (spB b l) := by
  unfold seqs_split.f
  rw [if_pos hB.pos, hB.low]
  have := split_l0 hB l hl hr l.length k 0 [] (by omega) hk (by simp; omega)
  rw [List.drop_zero, List.nil_append] at this
  exact this
end Go.Proofs.Ytcdahnkdongmdaa.Pure
