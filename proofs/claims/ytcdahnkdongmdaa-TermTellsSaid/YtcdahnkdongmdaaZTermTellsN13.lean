/- Texts of the claim TermTells, merged, without what it does not use. -/
import Derived.Test.YtcdahnkdongmdaaZTermTellsX12
import Derived.Test.YtcdahnkdongmdaaZTermTellsX13
import Derived.Test.YtcdahnkdongmdaaZTermTellsN8
namespace Go.Proofs.Ytcdahnkdongmdaa.Pure.Ref
set_option linter.unusedVariables false
set_option linter.unusedSimpArgs false
set_option linter.unnecessarySimpa false
open Go.RowKit Go.Proofs.Ytcdahnkdongmdaa.All Go.Proofs.YtcdahnkdongmdaaW.PrintWords Go.Proofs.YtcdahnkdongmdaaW.PrintLast
open Own
theorem drop_rd (l : List Int) (i : Int) (h0 : 0 ≤ i) (h1 : i < (l.length : Int)) : l.drop i.toNat = rd l i :: l.drop (i.toNat + 1) := by
  have h : i.toNat < l.length := by omega
  rw [List.drop_eq_getElem_cons h]
  simp [rd, List.getD_eq_getElem?_getD, List.getElem?_eq_getElem h]
theorem rd_mem (l : List Int) (i : Int) (h0 : 0 ≤ i) (h1 : i < (l.length : Int)) : rd l i ∈ l := by
  have h : i.toNat < l.length := by omega
  simp [rd, List.getD_eq_getElem?_getD, List.getElem?_eq_getElem h]
theorem wrap_in (n : Int) (h0 : -9223372036854775808 ≤ n) (h1 : n ≤ 9223372036854775807) : wrap64 n = n := IntWalk.wrap64_in n ⟨h0, h1⟩
theorem str_inj (xs ys : List Int) (hx : Bytes xs) (hy : Bytes ys) : (strOfNums xs).toList = (strOfNums ys).toList ↔ xs = ys := by
  rw [ByteArray.toList_eq, ByteArray.toList_eq, strOfNums_data, strOfNums_data]
  constructor
  · intro h
    induction xs generalizing ys with
    | nil =>
      cases ys with
      | nil => rfl
      | cons y ys => simp at h
    | cons x xs ih =>
      cases ys with
      | nil => simp at h
      | cons y ys =>
        simp only [List.map_cons, List.cons.injEq] at h
        have h1 := hx x (by simp)
        have h2 := hy y (by simp)
        have e : x.toNat = y.toNat := by
          have := congrArg UInt8.toNat h.1
          simp only [UInt8.toNat_ofNat'] at this
          omega
        rw [ih ys (fun z hz => hx z (List.mem_cons_of_mem _ hz)) (fun z hz => hy z (List.mem_cons_of_mem _ hz)) h.2, show x = y by omega]
  · rintro rfl; rfl
theorem rmay_f (r : Int) : exegeteref01_May.f r = some (All.mayB r) := by
  unfold exegeteref01_May.f All.mayB
  by_cases h0 : r ≥ 0
  · rw [if_pos h0]
    by_cases h1 : r ≤ 1114111
    · rw [if_pos h1]
      by_cases h2 : r < 55296
      · rw [if_pos h2]; simp [h0, h1, h2]
      · rw [if_neg h2]; simp [h0, h1, h2]
    · rw [if_neg h1]; simp [h1]
  · rw [if_neg h0]; simp [h0]
theorem rput_f (r : Int) : exegeteref01_Put.f r = if All.mayB r = true then some (putOf r, true) else some ([], false) := by
  unfold exegeteref01_Put.f
  rw [rmay_f]
  simp only [Option.bind_some]
  by_cases c : All.mayB r = true
  · rw [if_pos c, if_pos c]
    obtain ⟨h0, h1, h2⟩ := (All.mayB_iff r).mp c
    unfold putOf
    rw [Int.tdiv_eq_ediv_of_nonneg h0, Int.tmod_eq_emod_of_nonneg h0, Int.tdiv_eq_ediv_of_nonneg h0, Int.tdiv_eq_ediv_of_nonneg h0]
    have e1 : wrap64 (r / 64) = r / 64 := wrap_in _ (by omega) (by omega)
    have e2 : wrap64 (r / 4096) = r / 4096 := wrap_in _ (by omega) (by omega)
    have e3 : wrap64 (r / 262144) = r / 262144 := wrap_in _ (by omega) (by omega)
    rw [e1, e2, e3, Int.tmod_eq_emod_of_nonneg (show (0 : Int) ≤ r / 64 by omega), Int.tmod_eq_emod_of_nonneg (show (0 : Int) ≤ r / 4096 by omega)]
    have f0 : wrap64 (128 + r % 64) = 128 + r % 64 := wrap_in _ (by omega) (by omega)
    have f1 : wrap64 (128 + r / 64 % 64) = 128 + r / 64 % 64 := wrap_in _ (by omega) (by omega)
    have f2 : wrap64 (128 + r / 4096 % 64) = 128 + r / 4096 % 64 := wrap_in _ (by omega) (by omega)
    have g1 : wrap64 (192 + r / 64) = 192 + r / 64 := wrap_in _ (by omega) (by omega)
    have g2 : wrap64 (224 + r / 4096) = 224 + r / 4096 := wrap_in _ (by omega) (by omega)
    have g3 : wrap64 (240 + r / 262144) = 240 + r / 262144 := wrap_in _ (by omega) (by omega)
    rw [f0, f1, f2, g1, g2, g3]
    by_cases c1 : r < 128
    · rw [if_pos c1, if_pos c1]; simp; omega
    · rw [if_neg c1, if_neg c1]
      by_cases c2 : r < 2048
      · rw [if_pos c2, if_pos c2]; simp; omega
      · rw [if_neg c2, if_neg c2]
        by_cases c3 : r < 65536
        · rw [if_pos c3, if_pos c3]; simp; omega
        · rw [if_neg c3, if_neg c3]; simp; omega
  · rw [if_neg c, if_neg c]
def decN (x : Int) (ys : List Int) : Int := ys.foldl (fun x c => 64 * x + c - 128) x
def lowOf (n : Int) : Int := if n = 2 then 192 else if n = 3 then 224 else if n = 4 then 240 else 0
theorem dec_put (r : Int) (hr : All.mayB r = true) (a : Int) (t : List Int) (e : putOf r = a :: t) : decN (a - lowOf (szOf r)) t = r := by
  obtain ⟨h0, h1, h2⟩ := (All.mayB_iff r).mp hr
  unfold putOf at e
  unfold szOf lowOf
  split at e
  · rename_i c
    rw [if_pos c]
    injection e with e1 e2
    subst e1 e2
    simp [decN]
  · rename_i c
    rw [if_neg c]
    split at e
    · rename_i c2
      rw [if_pos c2]
      injection e with e1 e2
      subst e1 e2
      simp [decN]
      omega
    · rename_i c2
      rw [if_neg c2]
      split at e
      · rename_i c3
        rw [if_pos c3]
        injection e with e1 e2
        subst e1 e2
        simp [decN]
        omega
      · rename_i c3
        rw [if_neg c3]
        injection e with e1 e2
        subst e1 e2
        simp [decN]
        omega
theorem ref_l1 (l low : List Int) (a n : Int) (hs : Bytes l) (h0 : 0 ≤ a) (hn1 : 1 ≤ n) (hn4 : n ≤ 4) (hn : a + n ≤ (l.length : Int)) (hl : l.length ≤ 140737488355328) :
    ∀ (d k : Nat) (x i B : Int), i + d = n → 1 ≤ i → d < k → 4 ≤ B → -B ≤ x → x ≤ B → B * 100 ^ d ≤ 1000000000000 →
    exegeteref01_Next.l1 k l a low n x i = if All.mayB (decN x (((l.drop a.toNat).take n.toNat).drop i.toNat)) = true ∧ putOf (decN x (((l.drop a.toNat).take n.toNat).drop i.toNat)) = (l.drop a.toNat).take n.toNat
      then some (decN x (((l.drop a.toNat).take n.toNat).drop i.toNat), n) else exegeteref01_Next.l0 (k - d - 1) l a low (n + 1)
  | 0, k, x, i, B, hi, h1, hk, hB, hx0, hx1, hpow => by
    obtain ⟨k, rfl⟩ : ∃ m, k = m + 1 := ⟨k - 1, by omega⟩
    have hlen : ((l.drop a.toNat).take n.toNat).length = n.toNat := by rw [List.length_take, List.length_drop]; omega
    rw [List.drop_eq_nil_of_le (by omega)]
    rw [show decN x [] = x from rfl]
    simp only [exegeteref01_Next.l1]
    rw [if_neg (by omega), rput_f]
    have e0 : wrap64 (a + n) = a + n := wrap_in _ (by omega) (by omega)
    have e1 : wrap64 (n + 1) = n + 1 := wrap_in _ (by omega) (by omega)
    have e2 : (l.take (a + n).toNat).drop a.toNat = (l.drop a.toNat).take n.toNat := by
      rw [List.drop_take]
      congr 1
      omega
    by_cases c : All.mayB x = true
    · rw [if_pos c]
      simp only [Option.bind_some, if_true]
      rw [e0, e1, if_pos h0, if_pos (by omega), if_pos (by omega), e2]
      have hi2 := str_inj (putOf x) ((l.drop a.toNat).take n.toNat) (put_bytes c) ((hs.drop _).take _)
      by_cases c2 : putOf x = (l.drop a.toNat).take n.toNat
      · rw [if_pos (hi2.mpr c2), if_pos ⟨c, c2⟩]
      · rw [if_neg (fun h => c2 (hi2.mp h)), if_neg (fun h => c2 h.2)]
        rfl
    · rw [if_neg c, if_neg (fun h => c h.1)]
      simp only [Option.bind_some, Bool.false_eq_true, if_false]
      rw [e1]
      rfl
  | d + 1, k, x, i, B, hi, h1, hk, hB, hx0, hx1, hpow => by
    obtain ⟨k, rfl⟩ : ∃ m, k = m + 1 := ⟨k - 1, by omega⟩
    have e1 : wrap64 (a + i) = a + i := wrap_in _ (by omega) (by omega)
    have hm := hs _ (rd_mem l (a + i) (by omega) (by omega))
    have hp1 : (1 : Int) ≤ 100 ^ d := by
      have : (0 : Int) < 100 ^ d := Int.pow_pos (by decide)
      omega
    have hB2 : B * 100 ≤ B * 100 ^ (d + 1) := by
      rw [Int.pow_succ, Int.mul_comm (100 ^ d) 100, ← Int.mul_assoc]
      have := Int.mul_le_mul_of_nonneg_left hp1 (show 0 ≤ B * 100 by omega)
      omega
    have e2 : wrap64 (64 * x) = 64 * x := wrap_in _ (by omega) (by omega)
    have e3 : wrap64 (rd l (a + i)) = rd l (a + i) := wrap_in _ (by omega) (by omega)
    have e4 : wrap64 (64 * x + rd l (a + i)) = 64 * x + rd l (a + i) := wrap_in _ (by omega) (by omega)
    have e5 : wrap64 (64 * x + rd l (a + i) - 128) = 64 * x + rd l (a + i) - 128 := wrap_in _ (by omega) (by omega)
    have e6 : wrap64 (i + 1) = i + 1 := wrap_in _ (by omega) (by omega)
    have hlen : ((l.drop a.toNat).take n.toNat).length = n.toNat := by rw [List.length_take, List.length_drop]; omega
    have hd : ((l.drop a.toNat).take n.toNat).drop i.toNat = rd l (a + i) :: ((l.drop a.toNat).take n.toNat).drop (i + 1).toNat := by
      rw [drop_rd _ i (by omega) (by omega)]
      congr 1
      · unfold rd
        rw [List.getD_eq_getElem?_getD, List.getD_eq_getElem?_getD, List.getElem?_take, if_pos (by omega), List.getElem?_drop]
        congr 2
        omega
      · congr 1
        omega
    have hpow2 : (B * 100) * 100 ^ d ≤ 1000000000000 := by
      rw [Int.pow_succ, Int.mul_comm (100 ^ d) 100, ← Int.mul_assoc] at hpow
      exact hpow
    have ih := ref_l1 l low a n hs h0 hn1 hn4 hn hl d k (64 * x + rd l (a + i) - 128) (i + 1) (B * 100) (by omega) (by omega) (by omega) (by omega) (by omega) (by omega) hpow2
    rw [hd]
    simp only [exegeteref01_Next.l1]
    rw [if_pos (by omega), e1, if_pos (by omega), if_pos (by omega), e2, e3, e4, e5, e6, ih]
    have e7 : k + 1 - (d + 1) - 1 = k - d - 1 := by omega
    rw [e7]
    rfl
theorem ref_l0 (l : List Int) (a : Int) (hs : Bytes l) (h0 : 0 ≤ a) (h1 : a < (l.length : Int)) (hl : l.length ≤ 140737488355328) :
    ∀ (d k : Nat) (n : Int), n + d = 5 → 1 ≤ n → 10 * d + 10 ≤ k → (∀ r, All.mayB r = true → putOf r <+: l.drop a.toNat → n ≤ szOf r) →
    exegeteref01_Next.l0 k l a [0, 0, 192, 224, 240] n = some (nextS (l.drop a.toNat))
  | d, k, n, hd, hn, hk, hr => by
    obtain ⟨k, rfl⟩ : ∃ m, k = m + 2 := ⟨k - 2, by omega⟩
    have hsd := hs.drop a.toNat
    have hld : (l.drop a.toNat).length = l.length - a.toNat := List.length_drop
    simp only [exegeteref01_Next.l0]
    by_cases c1 : n ≤ 4
    · rw [if_pos c1, wrap_in _ (by omega) (by omega)]
      by_cases c2 : n ≤ (l.length : Int) - a
      · obtain ⟨d, rfl⟩ : ∃ m, d = m + 1 := ⟨d - 1, by omega⟩
        rw [decide_eq_true c2]
        simp only [exegeteref01_Next.j2, if_true]
        have hlow : rd [0, 0, 192, 224, 240] n = lowOf n := by
          have : n = 1 ∨ n = 2 ∨ n = 3 ∨ n = 4 := by omega
          rcases this with rfl | rfl | rfl | rfl <;> rfl
        have hll : 0 ≤ lowOf n ∧ lowOf n ≤ 240 := by unfold lowOf; split <;> (try split) <;> (try split) <;> omega
        have hb := hs _ (rd_mem l a h0 h1)
        rw [if_pos h0, if_pos h1, if_pos (by omega), if_pos (by simp; omega), hlow, wrap_in (rd l a) (by omega) (by omega), wrap_in _ (by omega) (by omega)]
        obtain ⟨e, he⟩ : ∃ e : Nat, n = e + 1 := ⟨(n - 1).toNat, by omega⟩
        have hpow : (1000 : Int) * 100 ^ e ≤ 1000000000000 := by
          have : e = 0 ∨ e = 1 ∨ e = 2 ∨ e = 3 := by omega
          rcases this with h | h | h | h <;> rw [h] <;> decide
        rw [ref_l1 l _ a n hs h0 hn c1 (by omega) hl e k (rd l a - lowOf n) 1 1000 (by omega) (by omega) (by omega) (by omega) (by omega) (by omega) hpow]
        have ht : (l.drop a.toNat).take n.toNat = rd l a :: ((l.drop a.toNat).take n.toNat).drop 1 := by
          rw [drop_rd l a h0 h1]
          obtain ⟨m, hm⟩ : ∃ m, n.toNat = m + 1 := ⟨n.toNat - 1, by omega⟩
          rw [hm]
          rfl
        have hlt : ((l.drop a.toNat).take n.toNat).length = n.toNat := by rw [List.length_take]; omega
        rw [Int.toNat_one]
        by_cases c3 : ∃ r, All.mayB r = true ∧ putOf r <+: l.drop a.toNat ∧ szOf r = n
        · obtain ⟨r, r1, r2, r3⟩ := c3
          have hlr := put_len r
          have hp : putOf r = (l.drop a.toNat).take n.toNat := by
            have := List.prefix_iff_eq_take.mp r2
            rw [this]
            congr 1
            omega
          have hdec : decN (rd l a - lowOf n) (((l.drop a.toNat).take n.toNat).drop 1) = r := by
            have := dec_put r r1 (rd l a) (((l.drop a.toNat).take n.toNat).drop 1) (by rw [hp]; exact ht)
            rw [r3] at this
            exact this
          rw [hdec, if_pos ⟨r1, hp⟩, next_scalar hsd r1 r2, r3]
        · have hno : ¬ (All.mayB (decN (rd l a - lowOf n) (((l.drop a.toNat).take n.toNat).drop 1)) = true ∧ putOf (decN (rd l a - lowOf n) (((l.drop a.toNat).take n.toNat).drop 1)) = (l.drop a.toNat).take n.toNat) := by
            rintro ⟨q1, q2⟩
            refine c3 ⟨_, q1, ?_, ?_⟩
            · rw [q2]; exact List.take_prefix _ _
            · have := put_len (decN (rd l a - lowOf n) (((l.drop a.toNat).take n.toNat).drop 1))
              rw [q2, hlt] at this
              omega
          rw [if_neg hno]
          exact ref_l0 l a hs h0 h1 hl d (k - e - 1) (n + 1) (by omega) (by omega) (by omega) fun r r1 r2 => by
            have := hr r r1 r2
            have : szOf r ≠ n := fun h => c3 ⟨r, r1, r2, h⟩
            omega
      · rw [decide_eq_false c2]
        simp only [exegeteref01_Next.j2, Bool.false_eq_true, if_false]
        rw [next_bad hsd fun r r1 r2 => by
          have := hr r r1 r2
          have := r2.length_le
          have := put_len r
          omega]
    · rw [if_neg c1]
      simp only [exegeteref01_Next.j2, Bool.false_eq_true, if_false]
      rw [next_bad hsd fun r r1 r2 => by
        have := hr r r1 r2
        have := sz_range r
        omega]
termination_by d => d
theorem rnext_f (l : List Int) (a : Int) (hs : Bytes l) (hl : l.length ≤ 140737488355328) (k : Nat) (hk : 100 ≤ k) : exegeteref01_Next.f k l a = some (nextOf l a) := by
  obtain ⟨k, rfl⟩ : ∃ m, k = m + 1 := ⟨k - 1, by omega⟩
  unfold exegeteref01_Next.f
  by_cases c1 : a < 0
  · rw [if_pos c1, nextq_out l a (.inl c1)]; simp [exegeteref01_Next.j0]
  · rw [if_neg c1]
    by_cases c2 : a ≥ (l.length : Int)
    · rw [decide_eq_true c2, nextq_out l a (.inr c2)]; simp [exegeteref01_Next.j0]
    · rw [decide_eq_false c2, nextq_in l a (by omega) (by omega)]
      simp only [exegeteref01_Next.j0, Bool.false_eq_true, if_false]
      exact ref_l0 l a hs (by omega) (by omega) hl 4 k 1 (by omega) (by omega) (by omega) fun r _ _ => (sz_range r).1
end Go.Proofs.Ytcdahnkdongmdaa.Pure.Ref
