/- What the printed functions of chapter 1 tell, in plain words: Put, Units, the texts of bytes, for every list of bytes. -/
import Derived.Test.YtfcnpoamggbdfaaAllx1
import Derived.Test.YtfcnpoamggbdfaaAllx3
import Derived.Test.YtfcnpoamggbdfaaNUtfA
import Derived.Test.YtfcnpoamggbdfaaNUtfU
namespace Go.Proofs.Ytfcnpoamggbdfaa.Pure
open Go.RowKit Go.Proofs.Ytfcnpoamggbdfaa.All Go.Proofs.YtfcnpoamggbdfaaW.PrintWords Go.Proofs.YtfcnpoamggbdfaaW.PrintLast

theorem put_f (r : Int) : utf_Put.f r = if mayB r = true then some (putOf r, true) else some ([], false) := rfl
theorem units_l0 (s : List Int) (hs : Bytes s) (hlen : s.length ≤ 140737488355328) : ∀ (d k : Nat) (x i : Int), 0 ≤ i → (s.length : Int) - i ≤ d → d < k → 0 ≤ x → x ≤ 1125899906842624 - d → i ≤ 1125899906842624 →
    utf_Units.l0 k s x i = some (x + unitsOf (s.drop i.toNat))
  | d, k, x, i, h0, hd, hk, hx, hb, hi => by
    obtain ⟨k, rfl⟩ : ∃ m, k = m + 1 := ⟨k - 1, by omega⟩
    simp only [utf_Units.l0]
    by_cases hlt : i < (s.length : Int)
    · have hne : s.drop i.toNat ≠ [] := by
        intro e
        have := List.drop_eq_nil_iff.mp e
        omega
      have hl := next_len _ (hs.drop i.toNat) hne
      obtain ⟨d, rfl⟩ : ∃ e, d = e + 1 := ⟨d - 1, by omega⟩
      rw [if_pos hlt, next_f s i hs (by unfold maxLen; omega)]
      have hn : nextOf s i = nextS (s.drop i.toNat) := by unfold nextOf; rw [if_neg (by omega), if_neg (by omega)]
      simp only [Option.bind_some]
      rw [hn, wrap_in _ (by omega) (by omega), wrap_in _ (by omega) (by omega), units_l0 s hs hlen d k (x + 1) _ (by omega) (by omega) (by omega) (by omega) (by omega) (by rw [List.length_drop] at hl; omega), units_step _ (hs.drop _) hne, List.drop_drop]
      have e : (i + (nextS (s.drop i.toNat)).2).toNat = i.toNat + (nextS (s.drop i.toNat)).2.toNat := by omega
      rw [e]
      congr 1
      omega
    · rw [if_neg hlt, List.drop_eq_nil_of_le (by omega), units_nil, Int.add_zero]
theorem units_f (s : List Int) (hs : Bytes s) (hlen : s.length ≤ 140737488355328) (k : Nat) (hk : s.length < k) : utf_Units.f k s = some (unitsOf s) := by
  unfold utf_Units.f
  rw [units_l0 s hs hlen s.length k 0 0 (by omega) (by omega) hk (by omega) (by omega) (by omega)]
  simp
theorem str_inj (xs ys : List Int) (hx : Bytes xs) (hy : Bytes ys) : (strOfNums xs).toList = (strOfNums ys).toList ↔ xs = ys := by
  rw [ByteArray.toList_eq, ByteArray.toList_eq, strOfNums_data, strOfNums_data]
  constructor
  · intro h
    induction xs generalizing ys with
    | nil =>
      cases ys with
      | nil => rfl
      | cons y ys => simp at h
    | cons x xs ih =>
      cases ys with
      | nil => simp at h
      | cons y ys =>
        simp only [List.map_cons, List.cons.injEq] at h
        have h1 := hx x (by simp)
        have h2 := hy y (by simp)
        have e : x.toNat = y.toNat := by
          have := congrArg UInt8.toNat h.1
          simp only [UInt8.toNat_ofNat'] at this
          omega
        rw [ih ys (fun z hz => hx z (List.mem_cons_of_mem _ hz)) (fun z hz => hy z (List.mem_cons_of_mem _ hz)) h.2, show x = y by omega]
  · rintro rfl; rfl
theorem str_text (xs : List Int) : (strOfNums xs).toList = xs.map fun n => UInt8.ofNat n.toNat := by rw [ByteArray.toList_eq, strOfNums_data]
theorem bytes_const (l : List Int) (h : l.all (fun x => decide (0 ≤ x) && decide (x ≤ 255)) = true) : Bytes l := fun x hx => by
  have := List.all_eq_true.mp h x hx
  simpa using this
end Go.Proofs.Ytfcnpoamggbdfaa.Pure
