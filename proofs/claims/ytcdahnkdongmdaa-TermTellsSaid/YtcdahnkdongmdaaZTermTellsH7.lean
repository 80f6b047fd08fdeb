/- Texts of the claim TermTells, merged, without what it does not use. -/
import Derived.Test.YtcdahnkdongmdaaZTermTellsX1
import Derived.Outline
import Derived.TacticsInMore
namespace Go.Proofs.Ytcdahnkdongmdaa.All
namespace Own
open Go.RowKit Go.Proofs.YtcdahnkdongmdaaW.PrintWords Go.Proofs.YtcdahnkdongmdaaW.PrintLast Go.Proofs.YtcdahnkdongmdaaW.PrintMore
set_option linter.unusedVariables false
set_option linter.unusedSimpArgs false
attribute [local go_sem] max_two min_two
def kArr : Value := .agg #[.int .i64 0, .int .i64 127, .int .i64 0, .int .i64 128, .int .i64 2047, .int .i64 1, .int .i64 2048, .int .i64 55295, .int .i64 2, .int .i64 57344, .int .i64 65535, .int .i64 2, .int .i64 65536, .int .i64 1114111, .int .i64 3]
set_option maxHeartbeats 1000000 in
set_option maxRecDepth 100000 in
theorem kinds_calls (w : World) : Calls Try.prog 37 #[] w fun e w' => e = .returned kArr ∧ Below w.heap.size w w' := by
  have hu35 := Try.underlying35
  have hu62 := Try.underlying62
  have hu63 := Try.underlying63
  go_enter Try.func37, Try.ntmps37
  go_wp2
  refine bodyPost_ret (results_cell_row (p := 0) (ty := 63) rfl _ _ w.heap.size 63 _ (0, 0) _ rfl (heap_alloc_new w _) hu63 rfl (by kernel_rfl)) rfl ?_
  exact ⟨rfl, (Below.refl _ w).alloc (Nat.le_refl _) _⟩
def kLo (i : Int) : Int := if i = 0 then 0 else if i = 1 then 128 else if i = 2 then 2048 else if i = 3 then 57344 else 65536
def kHi (i : Int) : Int := if i = 0 then 127 else if i = 1 then 2047 else if i = 2 then 55295 else if i = 3 then 65535 else 1114111
def kMore (i : Int) : Int := if i = 0 then 0 else if i = 1 then 1 else if i = 2 then 2 else if i = 3 then 2 else 3
set_option maxRecDepth 100000 in
theorem idx_kinds (i : Int) (h0 : 0 ≤ i) (h1 : i < 5) (w : World) : (Instr.index 63 kArr (.int .i64 i)).run Try.prog w = .ok (.agg #[.int .i64 (kLo i), .int .i64 (kHi i), .int .i64 (kMore i)]) w := by
  have hu63 := Try.underlying63
  have hu62 := Try.underlying62
  obtain rfl | rfl | rfl | rfl | rfl : i = 0 ∨ i = 1 ∨ i = 2 ∨ i = 3 ∨ i = 4 := by omega
  all_goals (unfold kArr; first | kernel_rfl | (go_simp; rfl))
theorem cut_max (t e : TypeId) {i : TypeInfo} (ht : Try.prog.underlying t = some (.slice e)) (hi : Try.prog.info? e = some i) (A : Option Addr) (n c : Nat) (j : Nat) (hm : j ≤ n) (hc : n ≤ c) :
    ∀ W : World, (Instr.slice t (.slice A n c) none (some (.int .i64 (j : Int))) (some (.int .i64 (j : Int)))).run Try.prog W = .ok (.slice A j j) W := by
  intro W
  have hel : Try.prog.elem t = e := by simp [Program.elem, ht]
  have hu : Try.prog.underlying t = some (.slice (Try.prog.elem t)) := by rw [hel]; exact ht
  have ha : (A.map fun x => x.add 0) = A := by cases A <;> simp [Addr.add]
  rw [run_slice_hm W t A n c hu .i64 .i64 j j (by omega) (by omega) (by omega), hel]
  simp [sizeOf, typeInfo, hi, sliced, Result.andThen, ha]
def fitsB : List S35 → List Int → Nat
  | r :: s, c :: b => if r.f0 ≤ wrap64 c ∧ wrap64 c ≤ r.f1 then fitsB s b + 1 else 0
  | _, _ => 0
@[irreducible] def mnN (x y : Int) : Int := if y < x then y else x
theorem min2_n (k k' : IntKind) (x y : Int) : Builtin.min2 (.int k x) (.int k' y) = pure (.int k (mnN x y)) := by rw [min2_int]; unfold mnN; rfl
attribute [local go_sem] min2_n
theorem mnN_nat (a b : Nat) : mnN (a : Int) (b : Int) = ((min a b : Nat) : Int) := by unfold mnN; split <;> omega
theorem fits_nil (l : List S35) (b : List Int) (k : Nat) (h : min b.length l.length ≤ k) : fitsB (l.drop k) (b.drop k) = 0 := by
  rcases Nat.le_total l.length b.length with h1 | h1
  · rw [List.drop_eq_nil_of_le (show l.length ≤ k by omega)]
    cases b.drop k <;> rfl
  · rw [List.drop_eq_nil_of_le (show b.length ≤ k by omega)]
    cases l.drop k <;> rfl
set_option maxHeartbeats 4000000 in
set_option maxRecDepth 100000 in
theorem fits_calls (A0 : Option Addr) (c0 : Nat) (l : List S35) (A1 : Option Addr) (c1 : Nat) (b : List Int) (w : World) (hr0 : Kd.C k35 w A0 l.length l) (hr1 : Kd.C (Kd.int .u8) w A1 b.length b) (hc1 : b.length ≤ c1) :
    Calls Try.prog 40 #[.slice A0 l.length c0, .slice A1 b.length c1] w fun e w' => e = .returned (.int .i64 (fitsB l b : Nat)) ∧ w' = w := by
  have hu35 := Try.underlying35
  obtain ⟨i0, hi0⟩ : ∃ i, Try.prog.info? 5 = some i := ⟨_, rfl⟩
  have hm := mnN_nat b.length l.length
  generalize hmm : min b.length l.length = m at hm
  have hcut := cut_max 24 5 Try.underlying24 hi0 A1 b.length c1 m (by omega) hc1
  have hmax := hr0.2.1
  have hmax1 := hr1.2.1
  have HR0 := Aside0.mk hr0
  have HR1 := Aside0.mk hr1
  have HM := Aside0.mk hmm
  have hml : m ≤ l.length := by omega
  have hmb : m ≤ b.length := by omega
  clear hr0 hr1 hi0 hmm
  go_enter Try.func40, Try.ntmps40
  go_upto_region 2 with fail
  clear hcut hm
  go_wp2
  go_loopw [22] (fun s wr => ∃ k : Nat, k ≤ m ∧ s = .int .i64 (k : Nat) ∧ Aside0 (fitsB l b = k + fitsB (l.drop k) (b.drop k)) ∧ w = wr) (fun s _ => m - (intOf s).toNat)
  case atStart => exact ⟨0, Nat.zero_le _, rfl, ⟨by simp⟩, rfl⟩
  case round =>
    obtain ⟨k, hk, rfl, HK, rfl⟩ := hrel
    by_cases hlt : k < m
    · obtain ⟨ad, rfl, hcb⟩ := Kd.at_int HR1.out (k : Int) (by omega) (by omega)
      obtain ⟨ad2, rfl, hc0, hc1'⟩ := at_T35 HR0.out (k : Int) (by omega) (by omega)
      rw [Int.toNat_natCast] at hc0 hc1' hcb
      have hdl : l.drop k = rd_T35 l (k : Int) :: l.drop (k + 1) := by
        rw [List.drop_eq_getElem_cons (show k < l.length by omega)]
        simp [rd_T35, List.getD_eq_getElem?_getD, List.getElem?_eq_getElem (show k < l.length by omega)]
      have hdb : b.drop k = rd b (k : Int) :: b.drop (k + 1) := by
        rw [List.drop_eq_getElem_cons (show k < b.length by omega)]
        simp [rd, List.getElem?_eq_getElem (show k < b.length by omega)]
      rw [hdl, hdb, fitsB] at HK
      have HK := Aside0.mk HK.out
      clear hdl hdb
      have hw1 : IntKind.i64.wrap (rd b (k : Int)) = wrap64 (rd b (k : Int)) := IntWalk.i64_left _
      have hl1 : (k : Int) < (l.length : Int) := by omega
      have hl2 : (k : Int) < (b.length : Int) := by omega
      have hl3 : (0 : Int) ≤ (k : Int) := by omega
      generalize hch : wrap64 (rd b (k : Int)) = ch at *
      generalize rd b (k : Int) = ch0 at *
      generalize rd_T35 l (k : Int) = r at *
      by_cases c1 : ch < r.f0
      · have d1 : decide (ch < r.f0) = true := decide_eq_true c1
        have hx : fitsB l b = k := by rw [HK.out, if_neg (by omega)]; rfl
        have HX := Aside0.mk hx
        clear HK hx
        go_wp2
        go_ret
        exact ⟨by rw [HX.out]; rfl, rfl⟩
      · have d1 : decide (ch < r.f0) = false := decide_eq_false c1
        by_cases c2 : ch > r.f1
        · have d2 : decide (ch > r.f1) = true := decide_eq_true c2
          have hx : fitsB l b = k := by rw [HK.out, if_neg (by omega)]; rfl
          have HX := Aside0.mk hx
          clear HK hx
          go_wp2
          go_ret
          exact ⟨by rw [HX.out]; rfl, rfl⟩
        · have d2 : decide (ch > r.f1) = false := decide_eq_false c2
          have hx : fitsB l b = (k + 1) + fitsB (l.drop (k + 1)) (b.drop (k + 1)) := by rw [HK.out, if_pos (by omega)]; omega
          have HX := Aside0.mk hx
          clear HK hx
          go_wp2
          exact ⟨⟨k + 1, by omega, by simp, HX, trivial⟩, by simp [intOf]; omega⟩
    · have hx : fitsB l b = m := by rw [HK.out, fits_nil l b k (by rw [HM.out]; omega)]; omega
      have hge : decide ((k : Int) < (m : Int)) = false := decide_eq_false (by omega)
      have hge2 : decide (k < m) = false := decide_eq_false (by omega)
      have HX := Aside0.mk hx
      clear hx
      go_wp2
      go_ret
      exact ⟨by rw [HX.out]; rfl, rfl⟩
end Own
end Go.Proofs.Ytcdahnkdongmdaa.All
