/- Texts of the claim TermTells, merged, without what it does not use. -/
import Derived.Test.YtcdahnkdongmdaaZTermTellsX1
import Derived.Test.YtcdahnkdongmdaaZTermTellsX12
import Derived.Test.YtcdahnkdongmdaaZTermTellsX20
namespace Go.Proofs.Ytcdahnkdongmdaa.All
open Go.RowKit Go.Proofs.YtcdahnkdongmdaaW.PrintWords Go.Proofs.YtcdahnkdongmdaaW.PrintLast Go.Proofs.YtcdahnkdongmdaaW.PrintMore
attribute [local go_sem] max2_int min2_int max_two min_two
set_option linter.unusedVariables false
set_option linter.unusedSimpArgs false
mutual
def exegeteref03_Of.l0 : Nat → List (List (S35)) → List Int → List Int → List (List Int) → List (S35) → Int → Option ((List (List (S35))))
  | 0, _, _, _, _, _, _ => none
  | k + 1, x3, x4, x5, x6, x7, x8 => if x8 < (x7.length : Int) then (exegeteref03_Of.l1 k x3 x4 x5 x6 x7 x8 0) else (some x3)
def exegeteref03_Of.l1 : Nat → List (List (S35)) → List Int → List Int → List (List Int) → List (S35) → Int → Int → Option ((List (List (S35))))
  | 0, _, _, _, _, _, _, _ => none
  | k + 1, x3, x4, x5, x6, x7, x8, x9 => if x9 < 5 then (if 0 ≤ x8 then (if x8 < (x7.length : Int) then (if 0 ≤ x9 then (if x9 < (x4.length : Int) then (if ((rd_T35 x7 x8).f0) < (rd x4 x9) then (exegeteref03_Of.j2 k x3 x4 x5 x6 x7 x8 x9 (rd x4 x9) ((rd_T35 x7 x8).f1)) else (exegeteref03_Of.j2 k x3 x4 x5 x6 x7 x8 x9 ((rd_T35 x7 x8).f0) ((rd_T35 x7 x8).f1))) else (none)) else (none)) else (none)) else (none)) else (exegeteref03_Of.l0 k x3 x4 x5 x6 x7 (wrap64 (x8 + 1)))
def exegeteref03_Of.j2 : Nat → List (List (S35)) → List Int → List Int → List (List Int) → List (S35) → Int → Int → Int → Int → Option ((List (List (S35))))
  | 0, _, _, _, _, _, _, _, _, _ => none
  | k + 1, x3, x4, x5, x6, x7, x8, x9, x352000, x352001 => if 0 ≤ x9 then (if x9 < (x5.length : Int) then (if x352001 > (rd x5 x9) then (exegeteref03_Of.j3 k x3 x4 x5 x6 x7 x8 x9 x352000 (rd x5 x9)) else (exegeteref03_Of.j3 k x3 x4 x5 x6 x7 x8 x9 x352000 x352001)) else (none)) else (none)
def exegeteref03_Of.j3 : Nat → List (List (S35)) → List Int → List Int → List (List Int) → List (S35) → Int → Int → Int → Int → Option ((List (List (S35))))
  | 0, _, _, _, _, _, _, _, _, _ => none
  | k + 1, x3, x4, x5, x6, x7, x8, x9, x352000, x352001 => if x352000 > x352001 then (exegeteref03_Of.l1 k x3 x4 x5 x6 x7 x8 (wrap64 (x9 + 1))) else (exegeteref03_Of.l2 k x3 x4 x5 x6 x7 x8 x9 (([(⟨x352000, x352001⟩ : S35)] : List (S35))) 0)
def exegeteref03_Of.l2 : Nat → List (List (S35)) → List Int → List Int → List (List Int) → List (S35) → Int → Int → List (S35) → Int → Option ((List (List (S35))))
  | 0, _, _, _, _, _, _, _, _, _ => none
  | k + 1, x3, x4, x5, x6, x7, x8, x9, x11, x12 => if 0 ≤ x9 then (if x9 < (x6.length : Int) then (if x12 < ((rd_L7 x6 x9).length : Int) then (exegeteref03_Of.l3 k x3 x4 x5 x6 x7 x8 x9 x11 x12 ([] : List (S35)) 0) else (exegeteref03_Of.l4 k x3 x4 x5 x6 x7 x8 x9 x11 0)) else (none)) else (none)
def exegeteref03_Of.l3 : Nat → List (List (S35)) → List Int → List Int → List (List Int) → List (S35) → Int → Int → List (S35) → Int → List (S35) → Int → Option ((List (List (S35))))
  | 0, _, _, _, _, _, _, _, _, _, _, _ => none
  | k + 1, x3, x4, x5, x6, x7, x8, x9, x11, x12, x13, x14 => if x14 < (x11.length : Int) then (if 0 ≤ x14 then (if 0 ≤ x9 then (if x9 < (x6.length : Int) then (if 0 ≤ x12 then (if x12 < ((rd_L7 x6 x9).length : Int) then ((exegeteref03_split.f k ((rd_T35 x11 x14).f0) ((rd_T35 x11 x14).f1) (rd (rd_L7 x6 x9) x12)).bind fun t363 => (if x13.length + t363.length < 8796093022208 then (exegeteref03_Of.l3 k x3 x4 x5 x6 x7 x8 x9 x11 x12 (x13 ++ t363) (wrap64 (x14 + 1))) else (none))) else (none)) else (none)) else (none)) else (none)) else (none)) else (exegeteref03_Of.l2 k x3 x4 x5 x6 x7 x8 x9 x13 (wrap64 (x12 + 1)))
def exegeteref03_Of.l4 : Nat → List (List (S35)) → List Int → List Int → List (List Int) → List (S35) → Int → Int → List (S35) → Int → Option ((List (List (S35))))
  | 0, _, _, _, _, _, _, _, _, _ => none
  | k + 1, x3, x4, x5, x6, x7, x8, x9, x11, x15 => if x15 < (x11.length : Int) then (if 0 ≤ x15 then ((exegeteref01_Put.f ((rd_T35 x11 x15).f0)).bind fun bt370 => ((exegeteref01_Put.f ((rd_T35 x11 x15).f1)).bind fun bt375 => (exegeteref03_Of.l5 k x3 x4 x5 x6 x7 x8 x9 x11 x15 bt370.1 bt375.1 ([] : List (S35)) 0))) else (none)) else (exegeteref03_Of.l1 k x3 x4 x5 x6 x7 x8 (wrap64 (x9 + 1)))
def exegeteref03_Of.l5 : Nat → List (List (S35)) → List Int → List Int → List (List Int) → List (S35) → Int → Int → List (S35) → Int → List Int → List Int → List (S35) → Int → Option ((List (List (S35))))
  | 0, _, _, _, _, _, _, _, _, _, _, _, _, _ => none
  | k + 1, x3, x4, x5, x6, x7, x8, x9, x11, x15, x16, x18, x20, x21 => if x21 < (x16.length : Int) then (if 0 ≤ x21 then (if x21 < (x18.length : Int) then (if x20.length < 8796093022208 then (exegeteref03_Of.l5 k x3 x4 x5 x6 x7 x8 x9 x11 x15 x16 x18 (x20 ++ [(⟨wrap64 (rd x16 x21), wrap64 (rd x18 x21)⟩ : S35)]) (wrap64 (x21 + 1))) else (none)) else (none)) else (none)) else (if x3.length < 5864062014805 then (exegeteref03_Of.l4 k (x3 ++ [x20]) x4 x5 x6 x7 x8 x9 x11 (wrap64 (x15 + 1))) else (none))
end
def exegeteref03_Of.f (k : Nat) (l0 : List (S35)) : Option ((List (List (S35)))) := (exegeteref02_Norm.f k l0).bind fun t346 => (exegeteref03_Of.l0 k ([] : List (List (S35))) (([0, 128, 2048, 57344, 65536] : List Int)) (([127, 2047, 55295, 65535, 1114111] : List Int)) (([(([] : List Int)), (([64] : List Int)), (([4096, 64] : List Int)), (([4096, 64] : List Int)), (([262144, 4096, 64] : List Int))] : List (List Int))) t346 0)
def exegeteref03_Of.T12 : Bool × List (List Nat × List Nat) := (true, [([], []), ([], []), ([0, 1], [0, 1]), ([2], [2]), ([3], [3]), ([], []), ([], []), ([5, 6], [5, 6]), ([7], [7]), ([8], [8]), ([4, 9], [4, 9]), ([], []), ([11, 10, 0, 1, 2, 3, 4, 5, 6, 7, 8, 9, 10, 11], [10, 11])])
def exegeteref03_Of.B12 : List Nat := [0, 0, 3, 7, 15, 0, 0, 96, 224, 480, 1023, 0, 4095]
theorem exegeteref03_Of.tab12 : rtab .any (opsOf Try.f57 12) = exegeteref03_Of.T12 := by kernel_rfl
theorem exegeteref03_Of.bits12 : waitsOk exegeteref03_Of.T12.2 exegeteref03_Of.B12 = true := by kernel_rfl
def exegeteref03_Of.T26 : Bool × List (List Nat × List Nat) := (true, [([], []), ([], []), ([], []), ([1, 2], [1, 2]), ([3], [3]), ([], []), ([], []), ([5, 6], [5, 6]), ([7], [7]), ([], []), ([8, 9], [8, 9]), ([10], [10]), ([4, 11], [4, 11]), ([0, 12, 12], [0, 12]), ([13, 13, 0, 1, 2, 3, 4, 5, 6, 7, 8, 9, 10, 11, 12, 13], [0, 13])])
def exegeteref03_Of.B26 : List Nat := [0, 0, 0, 6, 14, 0, 0, 96, 224, 0, 992, 2016, 4094, 8191, 16383]
theorem exegeteref03_Of.tab26 : rtab .any (opsOf Try.f57 26) = exegeteref03_Of.T26 := by kernel_rfl
theorem exegeteref03_Of.bits26 : waitsOk exegeteref03_Of.T26.2 exegeteref03_Of.B26 = true := by kernel_rfl
def exegeteref03_Of.T37 : Bool × List (List Nat × List Nat) := (true, [([], []), ([], []), ([], []), ([1, 2], [1, 2]), ([3], [3]), ([4], [4]), ([], []), ([], []), ([6, 7], [6, 7]), ([8], [8]), ([9], [9]), ([5, 10], [5, 10]), ([11], [11]), ([0, 12], [0, 12]), ([13, 13, 0, 1, 2, 3, 4, 5, 6, 7, 8, 9, 10, 11, 12, 13], [0, 13])])
def exegeteref03_Of.B37 : List Nat := [0, 0, 0, 6, 14, 30, 0, 0, 192, 448, 960, 2046, 4094, 8191, 16383]
theorem exegeteref03_Of.tab37 : rtab .any (opsOf Try.f57 37) = exegeteref03_Of.T37 := by kernel_rfl
theorem exegeteref03_Of.bits37 : waitsOk exegeteref03_Of.T37.2 exegeteref03_Of.B37 = true := by kernel_rfl
set_option maxHeartbeats 8000000 in
set_option maxRecDepth 100000 in
theorem exegeteref03_Of.calls (k : Nat) (A0 : Option Addr) (c0 : Nat) (l0 : List (S35)) (r : List (List (S35))) (w : World) (hr0 : Kd.C k35 w A0 l0.length l0) (hc0 : l0.length ≤ c0) (h : exegeteref03_Of.f k l0 = some r) :
 Calls Try.prog 57 #[.slice A0 l0.length c0] w fun e w' => ∃ v0_ : Value, e = .returned (v0_) ∧ Kd.N (Kd.slice 35 k35) 22 w' w.heap.size (fun k_ => (w.heap.size ≤ k_)) v0_ r ∧ Below w.heap.size w w' := by
 have hu35 := Try.underlying35
 have HR0 := Aside0.mk hr0
 have HC0 := Aside0.mk hc0
 clear hr0 hc0
 have HB := Aside0.mk (Below.refl w.heap.size w)
 have H : ((exegeteref02_Norm.f k l0).bind fun t346 => (exegeteref03_Of.l0 k ([] : List (List (S35))) (([0, 128, 2048, 57344, 65536] : List Int)) (([127, 2047, 55295, 65535, 1114111] : List Int)) (([(([] : List Int)), (([64] : List Int)), (([4096, 64] : List Int)), (([4096, 64] : List Int)), (([262144, 4096, 64] : List Int))] : List (List Int))) t346 0)) = some r := h
 clear h
 obtain ⟨y322, hy322⟩ : ∃ y_ : List Int, y_ = (([0, 128, 2048, 57344, 65536] : List Int)) := ⟨_, rfl⟩
 replace H : ((exegeteref02_Norm.f k l0).bind fun t346 => (exegeteref03_Of.l0 k ([] : List (List (S35))) y322 (([127, 2047, 55295, 65535, 1114111] : List Int)) (([(([] : List Int)), (([64] : List Int)), (([4096, 64] : List Int)), (([4096, 64] : List Int)), (([262144, 4096, 64] : List Int))] : List (List Int))) t346 0)) = some r := by first | (rw [hy322]; with_reducible exact H) | (have H2_ := (Option.bind_some _ _).symm.trans H; rw [hy322]; with_reducible exact H2_) | (have H2_ := (Option.bind_some _ _).symm.trans H; with_reducible exact H2_) | with_reducible exact H | (rw [hy322]; exact H) | exact H
 have Ny322 := Aside0.mk hy322
 clear hy322
 obtain ⟨y325, hy325⟩ : ∃ y_ : List Int, y_ = (([127, 2047, 55295, 65535, 1114111] : List Int)) := ⟨_, rfl⟩
 replace H : ((exegeteref02_Norm.f k l0).bind fun t346 => (exegeteref03_Of.l0 k ([] : List (List (S35))) y322 y325 (([(([] : List Int)), (([64] : List Int)), (([4096, 64] : List Int)), (([4096, 64] : List Int)), (([262144, 4096, 64] : List Int))] : List (List Int))) t346 0)) = some r := by first | (rw [hy325]; with_reducible exact H) | (have H2_ := (Option.bind_some _ _).symm.trans H; rw [hy325]; with_reducible exact H2_) | (have H2_ := (Option.bind_some _ _).symm.trans H; with_reducible exact H2_) | with_reducible exact H | (rw [hy325]; exact H) | exact H
 have Ny325 := Aside0.mk hy325
 clear hy325
 obtain ⟨y328, hy328⟩ : ∃ y_ : List Int, y_ = (([] : List Int)) := ⟨_, rfl⟩
 replace H : ((exegeteref02_Norm.f k l0).bind fun t346 => (exegeteref03_Of.l0 k ([] : List (List (S35))) y322 y325 (([y328, (([64] : List Int)), (([4096, 64] : List Int)), (([4096, 64] : List Int)), (([262144, 4096, 64] : List Int))] : List (List Int))) t346 0)) = some r := by first | (rw [hy328]; with_reducible exact H) | (have H2_ := (Option.bind_some _ _).symm.trans H; rw [hy328]; with_reducible exact H2_) | (have H2_ := (Option.bind_some _ _).symm.trans H; with_reducible exact H2_) | with_reducible exact H | (rw [hy328]; exact H) | exact H
 have Ny328 := Aside0.mk hy328
 clear hy328
 obtain ⟨y331, hy331⟩ : ∃ y_ : List Int, y_ = (([64] : List Int)) := ⟨_, rfl⟩
 replace H : ((exegeteref02_Norm.f k l0).bind fun t346 => (exegeteref03_Of.l0 k ([] : List (List (S35))) y322 y325 (([y328, y331, (([4096, 64] : List Int)), (([4096, 64] : List Int)), (([262144, 4096, 64] : List Int))] : List (List Int))) t346 0)) = some r := by first | (rw [hy331]; with_reducible exact H) | (have H2_ := (Option.bind_some _ _).symm.trans H; rw [hy331]; with_reducible exact H2_) | (have H2_ := (Option.bind_some _ _).symm.trans H; with_reducible exact H2_) | with_reducible exact H | (rw [hy331]; exact H) | exact H
 have Ny331 := Aside0.mk hy331
 clear hy331
 obtain ⟨y334, hy334⟩ : ∃ y_ : List Int, y_ = (([4096, 64] : List Int)) := ⟨_, rfl⟩
 replace H : ((exegeteref02_Norm.f k l0).bind fun t346 => (exegeteref03_Of.l0 k ([] : List (List (S35))) y322 y325 (([y328, y331, y334, (([4096, 64] : List Int)), (([262144, 4096, 64] : List Int))] : List (List Int))) t346 0)) = some r := by first | (rw [hy334]; with_reducible exact H) | (have H2_ := (Option.bind_some _ _).symm.trans H; rw [hy334]; with_reducible exact H2_) | (have H2_ := (Option.bind_some _ _).symm.trans H; with_reducible exact H2_) | with_reducible exact H | (rw [hy334]; exact H) | exact H
 have Ny334 := Aside0.mk hy334
 clear hy334
 obtain ⟨y337, hy337⟩ : ∃ y_ : List Int, y_ = (([4096, 64] : List Int)) := ⟨_, rfl⟩
 replace H : ((exegeteref02_Norm.f k l0).bind fun t346 => (exegeteref03_Of.l0 k ([] : List (List (S35))) y322 y325 (([y328, y331, y334, y337, (([262144, 4096, 64] : List Int))] : List (List Int))) t346 0)) = some r := by first | (rw [hy337]; with_reducible exact H) | (have H2_ := (Option.bind_some _ _).symm.trans H; rw [hy337]; with_reducible exact H2_) | (have H2_ := (Option.bind_some _ _).symm.trans H; with_reducible exact H2_) | with_reducible exact H | (rw [hy337]; exact H) | exact H
 have Ny337 := Aside0.mk hy337
 clear hy337
 obtain ⟨y340, hy340⟩ : ∃ y_ : List Int, y_ = (([262144, 4096, 64] : List Int)) := ⟨_, rfl⟩
 replace H : ((exegeteref02_Norm.f k l0).bind fun t346 => (exegeteref03_Of.l0 k ([] : List (List (S35))) y322 y325 (([y328, y331, y334, y337, y340] : List (List Int))) t346 0)) = some r := by first | (rw [hy340]; with_reducible exact H) | (have H2_ := (Option.bind_some _ _).symm.trans H; rw [hy340]; with_reducible exact H2_) | (have H2_ := (Option.bind_some _ _).symm.trans H; with_reducible exact H2_) | with_reducible exact H | (rw [hy340]; exact H) | exact H
 have Ny340 := Aside0.mk hy340
 clear hy340
 obtain ⟨y343, hy343⟩ : ∃ y_ : List (List Int), y_ = (([y328, y331, y334, y337, y340] : List (List Int))) := ⟨_, rfl⟩
 replace H : ((exegeteref02_Norm.f k l0).bind fun t346 => (exegeteref03_Of.l0 k ([] : List (List (S35))) y322 y325 y343 t346 0)) = some r := by first | (rw [hy343]; with_reducible exact H) | (have H2_ := (Option.bind_some _ _).symm.trans H; rw [hy343]; with_reducible exact H2_) | (have H2_ := (Option.bind_some _ _).symm.trans H; with_reducible exact H2_) | with_reducible exact H | (rw [hy343]; exact H) | exact H
 have Ny343 := Aside0.mk hy343
 clear hy343
 replace H := Option.bind_eq_some_iff.mp H
 obtain ⟨t346, A20, H⟩ := H
 replace H : (exegeteref03_Of.l0 k ([] : List (List (S35))) y322 y325 y343 t346 0) = some r := H
 have A2 := Aside0.mk A20
 clear A20; have H' := Aside0.mk H; clear H
 go_enter Try.func57, Try.ntmps57
 go_wp2_with (first | ((with_reducible refine gate_dst (N := 22) rfl ?_); refine Kd.R_lit (Kd.int .i64) _ 3 ?hg (N := 22) ?hd (xs := ([0, 128, 2048, 57344, 65536] : List Int)) (inner := [.int .i64 0, .int .i64 128, .int .i64 2048, .int .i64 57344, .int .i64 65536]) (ok := fun _ => True) (okp := fun _ => True) ?hr ?hp (fun _ hk => hk) trivial (Below.refl _ _) (Nat.le_refl _) (by simp) ?_; (case hd => rfl); (case hg => rfl); (case hr => first | (go_simp; done) | (go_simp; rfl)); (case hp => exact (Reps.one (show Kd.M (Kd.int .i64) _ _ _ 0 [.int .i64 0] from rfl) (Reps.one (show Kd.M (Kd.int .i64) _ _ _ 128 [.int .i64 128] from rfl) (Reps.one (show Kd.M (Kd.int .i64) _ _ _ 2048 [.int .i64 2048] from rfl) (Reps.one (show Kd.M (Kd.int .i64) _ _ _ 57344 [.int .i64 57344] from rfl) (Reps.one (show Kd.M (Kd.int .i64) _ _ _ 65536 [.int .i64 65536] from rfl) (Reps.none _ _))))))); intro v323 w3 ho4 hb hg_ hnew_; clear hg_ hnew_; (first | rw [← Ny322.out] at ho4 | (simp only [Int.reduceToNat] at ho4; rw [← Ny322.out] at ho4)); have n0_ := Aside0.mk (Kd.R_lower (Kd.R_newM (M := fun k_ => (w.heap.size ≤ k_)) ho4 (below_size (wU HB.out)) (fun k_ h_ => h_)) (below_size (wU HB.out))); have n1_ := Aside0.mk (below_step (wU HB.out) hb); clear HB; have HO324 := n0_; have HB := n1_; clear n0_ n1_; clear hb ho4) | ((with_reducible refine gate_dst (N := 23) rfl ?_); refine Kd.R_lit (Kd.int .i64) _ 3 ?hg (N := 23) ?hd (xs := ([127, 2047, 55295, 65535, 1114111] : List Int)) (inner := [.int .i64 127, .int .i64 2047, .int .i64 55295, .int .i64 65535, .int .i64 1114111]) (ok := fun _ => True) (okp := fun _ => True) ?hr ?hp (fun _ hk => hk) trivial (Below.refl _ _) (Nat.le_refl _) (by simp) ?_; (case hd => rfl); (case hg => rfl); (case hr => first | (go_simp; done) | (go_simp; rfl)); (case hp => exact (Reps.one (show Kd.M (Kd.int .i64) _ _ _ 127 [.int .i64 127] from rfl) (Reps.one (show Kd.M (Kd.int .i64) _ _ _ 2047 [.int .i64 2047] from rfl) (Reps.one (show Kd.M (Kd.int .i64) _ _ _ 55295 [.int .i64 55295] from rfl) (Reps.one (show Kd.M (Kd.int .i64) _ _ _ 65535 [.int .i64 65535] from rfl) (Reps.one (show Kd.M (Kd.int .i64) _ _ _ 1114111 [.int .i64 1114111] from rfl) (Reps.none _ _))))))); intro v326 w5 ho6 hb hg_ hnew_; clear hg_ hnew_; (first | rw [← Ny325.out] at ho6 | (simp only [Int.reduceToNat] at ho6; rw [← Ny325.out] at ho6)); have n0_ := Aside0.mk (Kd.R_elder' (rU HO324.out) (Kd.R_base ho6) hb); have n1_ := Aside0.mk (Kd.R_lower (Kd.R_new' (Kd.R_newM (M := fun k_ => (w.heap.size ≤ k_)) ho6 (below_size (wU HB.out)) (fun k_ h_ => h_)) (Kd.R_lt (rU HO324.out))) (below_size (wU HB.out))); have n2_ := Aside0.mk (below_step (wU HB.out) hb); clear HO324; clear HB; have HO324 := n0_; have HO327 := n1_; have HB := n2_; clear n0_ n1_ n2_; clear hb ho6) | ((with_reducible refine gate_dst (N := 24) rfl ?_); refine Kd.R_lit (Kd.int .i64) _ 3 ?hg (N := 24) ?hd (xs := ([] : List Int)) (inner := []) (ok := fun _ => True) (okp := fun _ => True) ?hr ?hp (fun _ hk => hk) trivial (Below.refl _ _) (Nat.le_refl _) (by simp) ?_; (case hd => rfl); (case hg => rfl); (case hr => first | (go_simp; done) | (go_simp; rfl)); (case hp => exact (Reps.none _ _)); intro v329 w7 ho8 hb hg_ hnew_; clear hg_ hnew_; (first | rw [← Ny328.out] at ho8 | (simp only [Int.reduceToNat] at ho8; rw [← Ny328.out] at ho8)); have n0_ := Aside0.mk (Kd.R_elder' (rU HO324.out) (Kd.R_base ho8) hb); have n1_ := Aside0.mk (Kd.R_elder' (rU HO327.out) (Kd.R_base ho8) hb); have n2_ := Aside0.mk (Kd.R_lower (Kd.R_new' (Kd.R_new' (Kd.R_newM (M := fun k_ => (w.heap.size ≤ k_)) ho8 (below_size (wU HB.out)) (fun k_ h_ => h_)) (Kd.R_lt (rU HO324.out))) (Kd.R_lt (rU HO327.out))) (below_size (wU HB.out))); have n3_ := Aside0.mk (below_step (wU HB.out) hb); clear HO324; clear HO327; clear HB; have HO324 := n0_; have HO327 := n1_; have HO330 := n2_; have HB := n3_; clear n0_ n1_ n2_ n3_; clear hb ho8) | ((with_reducible refine gate_dst (N := 25) rfl ?_); refine Kd.R_lit (Kd.int .i64) _ 3 ?hg (N := 25) ?hd (xs := ([64] : List Int)) (inner := [.int .i64 64]) (ok := fun _ => True) (okp := fun _ => True) ?hr ?hp (fun _ hk => hk) trivial (Below.refl _ _) (Nat.le_refl _) (by simp) ?_; (case hd => rfl); (case hg => rfl); (case hr => first | (go_simp; done) | (go_simp; rfl)); (case hp => exact (Reps.one (show Kd.M (Kd.int .i64) _ _ _ 64 [.int .i64 64] from rfl) (Reps.none _ _))); intro v332 w9 ho10 hb hg_ hnew_; clear hg_ hnew_; (first | rw [← Ny331.out] at ho10 | (simp only [Int.reduceToNat] at ho10; rw [← Ny331.out] at ho10)); have n0_ := Aside0.mk (Kd.R_elder' (rU HO324.out) (Kd.R_base ho10) hb); have n1_ := Aside0.mk (Kd.R_elder' (rU HO327.out) (Kd.R_base ho10) hb); have n2_ := Aside0.mk (Kd.R_elder' (rU HO330.out) (Kd.R_base ho10) hb); have n3_ := Aside0.mk (Kd.R_lower (Kd.R_new' (Kd.R_new' (Kd.R_new' (Kd.R_newM (M := fun k_ => (w.heap.size ≤ k_)) ho10 (below_size (wU HB.out)) (fun k_ h_ => h_)) (Kd.R_lt (rU HO324.out))) (Kd.R_lt (rU HO327.out))) (Kd.R_lt (rU HO330.out))) (below_size (wU HB.out))); have n4_ := Aside0.mk (below_step (wU HB.out) hb); clear HO324; clear HO327; clear HO330; clear HB; have HO324 := n0_; have HO327 := n1_; have HO330 := n2_; have HO333 := n3_; have HB := n4_; clear n0_ n1_ n2_ n3_ n4_; clear hb ho10) | ((with_reducible refine gate_dst (N := 26) rfl ?_); refine Kd.R_lit (Kd.int .i64) _ 3 ?hg (N := 26) ?hd (xs := ([4096, 64] : List Int)) (inner := [.int .i64 4096, .int .i64 64]) (ok := fun _ => True) (okp := fun _ => True) ?hr ?hp (fun _ hk => hk) trivial (Below.refl _ _) (Nat.le_refl _) (by simp) ?_; (case hd => rfl); (case hg => rfl); (case hr => first | (go_simp; done) | (go_simp; rfl)); (case hp => exact (Reps.one (show Kd.M (Kd.int .i64) _ _ _ 4096 [.int .i64 4096] from rfl) (Reps.one (show Kd.M (Kd.int .i64) _ _ _ 64 [.int .i64 64] from rfl) (Reps.none _ _)))); intro v335 w11 ho12 hb hg_ hnew_; clear hg_ hnew_; (first | rw [← Ny334.out] at ho12 | (simp only [Int.reduceToNat] at ho12; rw [← Ny334.out] at ho12)); have n0_ := Aside0.mk (Kd.R_elder' (rU HO324.out) (Kd.R_base ho12) hb); have n1_ := Aside0.mk (Kd.R_elder' (rU HO327.out) (Kd.R_base ho12) hb); have n2_ := Aside0.mk (Kd.R_elder' (rU HO330.out) (Kd.R_base ho12) hb); have n3_ := Aside0.mk (Kd.R_elder' (rU HO333.out) (Kd.R_base ho12) hb); have n4_ := Aside0.mk (Kd.R_lower (Kd.R_new' (Kd.R_new' (Kd.R_new' (Kd.R_new' (Kd.R_newM (M := fun k_ => (w.heap.size ≤ k_)) ho12 (below_size (wU HB.out)) (fun k_ h_ => h_)) (Kd.R_lt (rU HO324.out))) (Kd.R_lt (rU HO327.out))) (Kd.R_lt (rU HO330.out))) (Kd.R_lt (rU HO333.out))) (below_size (wU HB.out))); have n5_ := Aside0.mk (below_step (wU HB.out) hb); clear HO324; clear HO327; clear HO330; clear HO333; clear HB; have HO324 := n0_; have HO327 := n1_; have HO330 := n2_; have HO333 := n3_; have HO336 := n4_; have HB := n5_; clear n0_ n1_ n2_ n3_ n4_ n5_; clear hb ho12) | ((with_reducible refine gate_dst (N := 27) rfl ?_); refine Kd.R_lit (Kd.int .i64) _ 3 ?hg (N := 27) ?hd (xs := ([4096, 64] : List Int)) (inner := [.int .i64 4096, .int .i64 64]) (ok := fun _ => True) (okp := fun _ => True) ?hr ?hp (fun _ hk => hk) trivial (Below.refl _ _) (Nat.le_refl _) (by simp) ?_; (case hd => rfl); (case hg => rfl); (case hr => first | (go_simp; done) | (go_simp; rfl)); (case hp => exact (Reps.one (show Kd.M (Kd.int .i64) _ _ _ 4096 [.int .i64 4096] from rfl) (Reps.one (show Kd.M (Kd.int .i64) _ _ _ 64 [.int .i64 64] from rfl) (Reps.none _ _)))); intro v338 w13 ho14 hb hg_ hnew_; clear hg_ hnew_; (first | rw [← Ny337.out] at ho14 | (simp only [Int.reduceToNat] at ho14; rw [← Ny337.out] at ho14)); have n0_ := Aside0.mk (Kd.R_elder' (rU HO324.out) (Kd.R_base ho14) hb); have n1_ := Aside0.mk (Kd.R_elder' (rU HO327.out) (Kd.R_base ho14) hb); have n2_ := Aside0.mk (Kd.R_elder' (rU HO330.out) (Kd.R_base ho14) hb); have n3_ := Aside0.mk (Kd.R_elder' (rU HO333.out) (Kd.R_base ho14) hb); have n4_ := Aside0.mk (Kd.R_elder' (rU HO336.out) (Kd.R_base ho14) hb); have n5_ := Aside0.mk (Kd.R_lower (Kd.R_new' (Kd.R_new' (Kd.R_new' (Kd.R_new' (Kd.R_new' (Kd.R_newM (M := fun k_ => (w.heap.size ≤ k_)) ho14 (below_size (wU HB.out)) (fun k_ h_ => h_)) (Kd.R_lt (rU HO324.out))) (Kd.R_lt (rU HO327.out))) (Kd.R_lt (rU HO330.out))) (Kd.R_lt (rU HO333.out))) (Kd.R_lt (rU HO336.out))) (below_size (wU HB.out))); have n6_ := Aside0.mk (below_step (wU HB.out) hb); clear HO324; clear HO327; clear HO330; clear HO333; clear HO336; clear HB; have HO324 := n0_; have HO327 := n1_; have HO330 := n2_; have HO333 := n3_; have HO336 := n4_; have HO339 := n5_; have HB := n6_; clear n0_ n1_ n2_ n3_ n4_ n5_ n6_; clear hb ho14) | ((with_reducible refine gate_dst (N := 28) rfl ?_); refine Kd.R_lit (Kd.int .i64) _ 3 ?hg (N := 28) ?hd (xs := ([262144, 4096, 64] : List Int)) (inner := [.int .i64 262144, .int .i64 4096, .int .i64 64]) (ok := fun _ => True) (okp := fun _ => True) ?hr ?hp (fun _ hk => hk) trivial (Below.refl _ _) (Nat.le_refl _) (by simp) ?_; (case hd => rfl); (case hg => rfl); (case hr => first | (go_simp; done) | (go_simp; rfl)); (case hp => exact (Reps.one (show Kd.M (Kd.int .i64) _ _ _ 262144 [.int .i64 262144] from rfl) (Reps.one (show Kd.M (Kd.int .i64) _ _ _ 4096 [.int .i64 4096] from rfl) (Reps.one (show Kd.M (Kd.int .i64) _ _ _ 64 [.int .i64 64] from rfl) (Reps.none _ _))))); intro v341 w15 ho16 hb hg_ hnew_; clear hg_ hnew_; (first | rw [← Ny340.out] at ho16 | (simp only [Int.reduceToNat] at ho16; rw [← Ny340.out] at ho16)); have n0_ := Aside0.mk (Kd.R_elder' (rU HO324.out) (Kd.R_base ho16) hb); have n1_ := Aside0.mk (Kd.R_elder' (rU HO327.out) (Kd.R_base ho16) hb); have n2_ := Aside0.mk (Kd.R_elder' (rU HO330.out) (Kd.R_base ho16) hb); have n3_ := Aside0.mk (Kd.R_elder' (rU HO333.out) (Kd.R_base ho16) hb); have n4_ := Aside0.mk (Kd.R_elder' (rU HO336.out) (Kd.R_base ho16) hb); have n5_ := Aside0.mk (Kd.R_elder' (rU HO339.out) (Kd.R_base ho16) hb); have n6_ := Aside0.mk (Kd.R_lower (Kd.R_new' (Kd.R_new' (Kd.R_new' (Kd.R_new' (Kd.R_new' (Kd.R_new' (Kd.R_newM (M := fun k_ => (w.heap.size ≤ k_)) ho16 (below_size (wU HB.out)) (fun k_ h_ => h_)) (Kd.R_lt (rU HO324.out))) (Kd.R_lt (rU HO327.out))) (Kd.R_lt (rU HO330.out))) (Kd.R_lt (rU HO333.out))) (Kd.R_lt (rU HO336.out))) (Kd.R_lt (rU HO339.out))) (below_size (wU HB.out))); have n7_ := Aside0.mk (below_step (wU HB.out) hb); clear HO324; clear HO327; clear HO330; clear HO333; clear HO336; clear HO339; clear HB; have HO324 := n0_; have HO327 := n1_; have HO330 := n2_; have HO333 := n3_; have HO336 := n4_; have HO339 := n5_; have HO342 := n6_; have HB := n7_; clear n0_ n1_ n2_ n3_ n4_ n5_ n6_ n7_; clear hb ho16; obtain ⟨Ao17, co17, eo17⟩ := Kd.R_slice HO330.out; subst eo17; obtain ⟨Ao18, co18, eo18⟩ := Kd.R_slice HO333.out; subst eo18; obtain ⟨Ao19, co19, eo19⟩ := Kd.R_slice HO336.out; subst eo19; obtain ⟨Ao20, co20, eo20⟩ := Kd.R_slice HO339.out; subst eo20; obtain ⟨Ao21, co21, eo21⟩ := Kd.R_slice HO342.out; subst eo21) | ((with_reducible refine gate_dst (N := 29) rfl ?_); refine Kd.N_lit (Kd.slice 3 (Kd.int .i64)) _ 48 ?hg (N' := 29) ?hd (xs := ([y328, y331, y334, y337, y340] : List (List Int))) (inner := [.slice Ao17 y328.length co17, .slice Ao18 y331.length co18, .slice Ao19 y334.length co19, .slice Ao20 y337.length co20, .slice Ao21 y340.length co21]) (ok := (fun k_ => (w.heap.size ≤ k_) ∧ some k_ ≠ (v323 : Value).ownBlock ∧ some k_ ≠ (v326 : Value).ownBlock)) (okp := (fun k_ => (w.heap.size ≤ k_) ∧ some k_ ≠ (v323 : Value).ownBlock ∧ some k_ ≠ (v326 : Value).ownBlock)) ?hr ?hp (fun _ hk => hk) ((show ∀ k_, w15.heap.size ≤ k_ → (fun k_ => (w.heap.size ≤ k_) ∧ some k_ ≠ (v323 : Value).ownBlock ∧ some k_ ≠ (v326 : Value).ownBlock) k_ from fun k_ hk => ⟨(Nat.le_trans (below_size (wU HB.out)) hk), Kd.fresh' (Kd.R_lt (rU HO324.out)) k_ hk, Kd.fresh' (Kd.R_lt (rU HO327.out)) k_ hk⟩) _ (Nat.le_refl _)) (Below.refl _ _) (Nat.le_refl _) (by simp) ?_; (case hd => rfl); (case hg => rfl); (case hr => first | (go_simp; done) | (go_simp; rfl)); (case hp => exact (Reps.one (show Kd.FK (Kd.slice 3 (Kd.int .i64)) _ _ y328 [.slice Ao17 y328.length co17] from (Kd.FK_slice_mk (Kd.R_reads' (Kd.R_mono (ok' := (fun k_ => (w.heap.size ≤ k_) ∧ some k_ ≠ (v323 : Value).ownBlock ∧ some k_ ≠ (v326 : Value).ownBlock)) (HO330.out) (fun k_ hk => ⟨hk.1.1.1.1.1.1.1, ⟨hk.1.1.1.1.1.2, hk.1.1.1.1.2⟩⟩))).2.1 (Kd.R_F (Kd.R_mono (ok' := (fun k_ => (w.heap.size ≤ k_) ∧ some k_ ≠ (v323 : Value).ownBlock ∧ some k_ ≠ (v326 : Value).ownBlock)) (HO330.out) (fun k_ hk => ⟨hk.1.1.1.1.1.1.1, ⟨hk.1.1.1.1.1.2, hk.1.1.1.1.2⟩⟩))))) (Reps.one (show Kd.FK (Kd.slice 3 (Kd.int .i64)) _ _ y331 [.slice Ao18 y331.length co18] from (Kd.FK_slice_mk (Kd.R_reads' (Kd.R_mono (ok' := (fun k_ => (w.heap.size ≤ k_) ∧ some k_ ≠ (v323 : Value).ownBlock ∧ some k_ ≠ (v326 : Value).ownBlock)) (HO333.out) (fun k_ hk => ⟨hk.1.1.1.1.1.1.1, ⟨hk.1.1.1.1.1.2, hk.1.1.1.1.2⟩⟩))).2.1 (Kd.R_F (Kd.R_mono (ok' := (fun k_ => (w.heap.size ≤ k_) ∧ some k_ ≠ (v323 : Value).ownBlock ∧ some k_ ≠ (v326 : Value).ownBlock)) (HO333.out) (fun k_ hk => ⟨hk.1.1.1.1.1.1.1, ⟨hk.1.1.1.1.1.2, hk.1.1.1.1.2⟩⟩))))) (Reps.one (show Kd.FK (Kd.slice 3 (Kd.int .i64)) _ _ y334 [.slice Ao19 y334.length co19] from (Kd.FK_slice_mk (Kd.R_reads' (Kd.R_mono (ok' := (fun k_ => (w.heap.size ≤ k_) ∧ some k_ ≠ (v323 : Value).ownBlock ∧ some k_ ≠ (v326 : Value).ownBlock)) (HO336.out) (fun k_ hk => ⟨hk.1.1.1.1.1.1.1, ⟨hk.1.1.1.1.1.2, hk.1.1.1.1.2⟩⟩))).2.1 (Kd.R_F (Kd.R_mono (ok' := (fun k_ => (w.heap.size ≤ k_) ∧ some k_ ≠ (v323 : Value).ownBlock ∧ some k_ ≠ (v326 : Value).ownBlock)) (HO336.out) (fun k_ hk => ⟨hk.1.1.1.1.1.1.1, ⟨hk.1.1.1.1.1.2, hk.1.1.1.1.2⟩⟩))))) (Reps.one (show Kd.FK (Kd.slice 3 (Kd.int .i64)) _ _ y337 [.slice Ao20 y337.length co20] from (Kd.FK_slice_mk (Kd.R_reads' (Kd.R_mono (ok' := (fun k_ => (w.heap.size ≤ k_) ∧ some k_ ≠ (v323 : Value).ownBlock ∧ some k_ ≠ (v326 : Value).ownBlock)) (HO339.out) (fun k_ hk => ⟨hk.1.1.1.1.1.1.1, ⟨hk.1.1.1.1.1.2, hk.1.1.1.1.2⟩⟩))).2.1 (Kd.R_F (Kd.R_mono (ok' := (fun k_ => (w.heap.size ≤ k_) ∧ some k_ ≠ (v323 : Value).ownBlock ∧ some k_ ≠ (v326 : Value).ownBlock)) (HO339.out) (fun k_ hk => ⟨hk.1.1.1.1.1.1.1, ⟨hk.1.1.1.1.1.2, hk.1.1.1.1.2⟩⟩))))) (Reps.one (show Kd.FK (Kd.slice 3 (Kd.int .i64)) _ _ y340 [.slice Ao21 y340.length co21] from (Kd.FK_slice_mk (Kd.R_reads' (Kd.R_mono (ok' := (fun k_ => (w.heap.size ≤ k_) ∧ some k_ ≠ (v323 : Value).ownBlock ∧ some k_ ≠ (v326 : Value).ownBlock)) (HO342.out) (fun k_ hk => ⟨hk.1.1.1.1.1.1.1, ⟨hk.1.1.1.1.1.2, hk.1.1.1.1.2⟩⟩))).2.1 (Kd.R_F (Kd.R_mono (ok' := (fun k_ => (w.heap.size ≤ k_) ∧ some k_ ≠ (v323 : Value).ownBlock ∧ some k_ ≠ (v326 : Value).ownBlock)) (HO342.out) (fun k_ hk => ⟨hk.1.1.1.1.1.1.1, ⟨hk.1.1.1.1.1.2, hk.1.1.1.1.2⟩⟩))))) (Reps.none _ _))))))); intro v344 w22 ho23 hb hg_ hnew_; clear hg_ hnew_; (first | rw [← Ny343.out] at ho23 | (simp only [Int.reduceToNat] at ho23; rw [← Ny343.out] at ho23)); have n0_ := Aside0.mk (Kd.R_below (rU HO324.out) hb); have n1_ := Aside0.mk (Kd.R_below (rU HO327.out) hb); have n2_ := Aside0.mk (Kd.N_lower ho23 (below_size (wU HB.out))); have n3_ := Aside0.mk (below_step (wU HB.out) hb); clear HO324; clear HO327; clear HB; clear HO330; clear HO333; clear HO336; clear HO339; clear HO342; have HO324 := n0_; have HO327 := n1_; have HO345 := n2_; have HB := n3_; clear n0_ n1_ n2_ n3_; clear hb ho23) | ((with_reducible refine gate_callee (f := 67) rfl ?_); refine goesL_ (some 31) rfl rfl Try.func67 (by kernel_rfl) rfl #[.slice A0 l0.length c0] rfl (by (try simp only [List.map_toArray, List.map_cons, List.map_nil]); first | done | rfl | (simp only [List.length_drop, List.length_take]; rfl)) ?_; (with_reducible refine (exegeteref02_Norm.calls k _ _ l0 t346 _ ?side1 ?side2 A2.out).mono ?_); (case side1 => exact cU (Kd.C_below HR0.out HB.out)); (case side2 => exact HC0.out); rintro e w24 ⟨v347, rfl, ho0, hb⟩; refine ⟨_, rfl, ?_⟩; have n0_ := Aside0.mk (Kd.R_below (rU HO324.out) hb); have n1_ := Aside0.mk (Kd.R_below (rU HO327.out) hb); have n2_ := Aside0.mk (Kd.N_elder' (nU HO345.out) (Kd.R_base ho0) hb); have n3_ := Aside0.mk (Kd.R_lower (Kd.R_newM (M := fun k_ => (w.heap.size ≤ k_)) ho0 (below_size (wU HB.out)) (fun k_ h_ => h_)) (below_size (wU HB.out))); have n4_ := Aside0.mk (below_step (wU HB.out) hb); clear HO324; clear HO327; clear HO345; clear HB; have HO324 := n0_; have HO327 := n1_; have HO345 := n2_; have HO348 := n3_; have HB := n4_; clear n0_ n1_ n2_ n3_ n4_; (try clear hb); (try clear hb2); (try clear hk); (try clear hi); (try clear ho0)))
 go_loopg [3, 8] k (fun kq v3 v8 w' => ∃ (x3_1 : List (List (S35))) (x8_1 : Int), v8 = .int .i64 x8_1 ∧ Aside0 (exegeteref03_Of.l0 kq x3_1 y322 y325 y343 t346 x8_1 = some r) ∧ Aside0 (kq ≤ k) ∧ Aside0 (Kd.N (Kd.slice 35 k35) 22 w' w.heap.size (fun k_ => (w.heap.size ≤ k_) ∧ some k_ ≠ (v323 : Value).ownBlock ∧ some k_ ≠ (v326 : Value).ownBlock ∧ some k_ ≠ (v344 : Value).ownBlock ∧ some k_ ≠ (v347 : Value).ownBlock) v3 x3_1) ∧ Aside0 (Kd.R (Kd.int .i64) 3 w' w.heap.size (fun k_ => (w.heap.size ≤ k_) ∧ some k_ ≠ (v326 : Value).ownBlock) v323 y322) ∧ Aside0 (Kd.R (Kd.int .i64) 3 w' w.heap.size (fun k_ => (w.heap.size ≤ k_) ∧ some k_ ≠ (v323 : Value).ownBlock) v326 y325) ∧ Aside0 (Kd.N (Kd.slice 3 (Kd.int .i64)) 48 w' w.heap.size (fun k_ => (w.heap.size ≤ k_) ∧ some k_ ≠ (v3 : Value).ownBlock ∧ some k_ ≠ (v323 : Value).ownBlock ∧ some k_ ≠ (v326 : Value).ownBlock ∧ some k_ ≠ (v347 : Value).ownBlock) v344 y343) ∧ Aside0 (Kd.R k35 35 w' w.heap.size (fun k_ => (w.heap.size ≤ k_)) v347 t346) ∧ Aside0 (Below w.heap.size w w'))
 case atStart => exact ⟨(([] : List (List (S35)))), (0), (by first | rfl | (simp; done) | (simp [*]; done) | (simp [*, bne]; done)), H', ⟨Nat.le_refl _⟩, ⟨by first | exact Kd.S_nil _ _ _ _ _ | exact Kd.N_nil _ _ _ _ _ | exact Kd.V_nil _ _ _ _ _ | exact Kd.Q_nil _ _ _ _ _ | exact Kd.R_nil _ _ _ _ _⟩, ⟨by (with_reducible repeat (first | apply Kd.R_alloc | apply Kd.R_drewN | apply Kd.R_drew)); exact Kd.R_mono HO324.out (fun _ hk => ⟨hk.1.1.1.1.1.1.1, hk.1.1.1.1.1.2⟩)⟩, ⟨by (with_reducible repeat (first | apply Kd.R_alloc | apply Kd.R_drewN | apply Kd.R_drew)); exact Kd.R_mono HO327.out (fun _ hk => ⟨hk.1.1.1.1.1.1.1, hk.1.1.1.1.1.2⟩)⟩, ⟨by (with_reducible repeat (first | apply Kd.N_alloc | apply Kd.N_drewN | apply Kd.N_drew)); exact Kd.N_mono HO345.out (fun _ hk => ⟨hk.1.1, ⟨(by simp [Value.ownBlock]), ⟨hk.1.2.1, ⟨hk.1.2.2, hk.2⟩⟩⟩⟩)⟩, ⟨by (with_reducible repeat (first | apply Kd.R_alloc | apply Kd.R_drewN | apply Kd.R_drew)); exact Kd.R_mono HO348.out (fun _ hk => hk.1)⟩, ⟨wU HB.out⟩⟩
 case round =>
  clear H'; (try clear p2); (try clear c5); (try clear c6)
  obtain ⟨x3_1, x8_1, rfl, HA, HK1, HO_3, HO_4, HO_5, HO_6, HO_7, HB⟩ := hrel
  cases gk with
  | zero => exact absurd HA.out (by simp [exegeteref03_Of.l0])
  | succ k1 =>
   have H := HA.out
   clear HA
   simp only [exegeteref03_Of.l0] at H
   by_cases c25 : x8_1 < (t346.length : Int)
   rotate_left
   · rw [if_neg c25] at H
     have c25b0 : decide (x8_1 < (t346.length : Int)) = false := decide_eq_false c25
     clear c25
     obtain rfl := Option.some.inj H
     obtain ⟨Ao93, co93, eo93⟩ := Kd.R_slice HO_7.out
     subst eo93
     go_wp2
     go_ret
     exact ⟨_, by first | rfl | (simp [errW_none, errW_some] <;> rfl) | (simp [*, errW_none, errW_some] <;> rfl), by (with_reducible repeat (first | apply Kd.N_alloc | apply Kd.N_drewN | apply Kd.N_drew)); exact Kd.N_mono HO_3.out (fun _ hk => hk.1), wU HB.out⟩
   rw [if_pos c25] at H
   have c25b0 : decide (x8_1 < (t346.length : Int)) = true := decide_eq_true c25
   clear c25; have H' := Aside0.mk H; clear H
   obtain ⟨Ao26, co26, eo26⟩ := Kd.R_slice HO_7.out
   subst eo26
   go_wp2
   go_loopg [3, 9] k1 (fun kq v3 v9 w' => ∃ (x3_2 : List (List (S35))) (x9_2 : Int), v9 = .int .i64 x9_2 ∧ Aside0 (exegeteref03_Of.l1 kq x3_2 y322 y325 y343 t346 x8_1 x9_2 = some r) ∧ Aside0 (kq ≤ k1) ∧ Aside0 (Kd.N (Kd.slice 35 k35) 22 w' w.heap.size (fun k_ => (w.heap.size ≤ k_) ∧ some k_ ≠ (v323 : Value).ownBlock ∧ some k_ ≠ (v326 : Value).ownBlock ∧ some k_ ≠ (v344 : Value).ownBlock ∧ some k_ ≠ ((.slice Ao26 t346.length co26) : Value).ownBlock) v3 x3_2) ∧ Aside0 (Kd.R (Kd.int .i64) 3 w' w.heap.size (fun k_ => (w.heap.size ≤ k_) ∧ some k_ ≠ (v326 : Value).ownBlock) v323 y322) ∧ Aside0 (Kd.R (Kd.int .i64) 3 w' w.heap.size (fun k_ => (w.heap.size ≤ k_) ∧ some k_ ≠ (v323 : Value).ownBlock) v326 y325) ∧ Aside0 (Kd.N (Kd.slice 3 (Kd.int .i64)) 48 w' w.heap.size (fun k_ => (w.heap.size ≤ k_) ∧ some k_ ≠ (v3 : Value).ownBlock ∧ some k_ ≠ (v323 : Value).ownBlock ∧ some k_ ≠ (v326 : Value).ownBlock ∧ some k_ ≠ ((.slice Ao26 t346.length co26) : Value).ownBlock) v344 y343) ∧ Aside0 (Kd.R k35 35 w' w.heap.size (fun k_ => (w.heap.size ≤ k_)) (.slice Ao26 t346.length co26) t346) ∧ Aside0 (Below w.heap.size w w'))
   case atStart => exact ⟨(x3_1), (0), (by first | rfl | (simp; done) | (simp [*]; done) | (simp [*, bne]; done)), H', ⟨Nat.le_refl _⟩, ⟨nU HO_3.out⟩, ⟨rU HO_4.out⟩, ⟨rU HO_5.out⟩, ⟨nU HO_6.out⟩, ⟨rU HO_7.out⟩, ⟨wU HB.out⟩⟩
   case round =>
    clear H'; (try clear c2); (try clear p2); (try clear c5); (try clear c6); (try clear c25); (try clear c25b0); (try clear p2)
    obtain ⟨x3_2, x9_2, rfl, HA, HK2, HO_3, HO_4, HO_5, HO_6, HO_7, HB⟩ := hrel
    cases gk with
    | zero => exact absurd HA.out (by simp [exegeteref03_Of.l1])
    | succ k2 =>
     have H := HA.out
     clear HA
     simp only [exegeteref03_Of.l1] at H
     by_cases c27 : x9_2 < 5
     rotate_left
     · rw [if_neg c27] at H
       have c27b0 : decide (x9_2 < 5) = false := decide_eq_false c27
       clear c27; have H' := Aside0.mk H; clear H
       go_wp2
       go_roundg k2
       case measure => have := HK1.out; have := HK2.out; omega
       case rel => exact ⟨(x3_2), (wrap64 (x8_1 + 1)), (by first | rfl | (simp; done) | (simp [*]; done) | (simp [*, bne]; done)), H', ⟨by have := HK1.out; have := HK2.out; omega⟩, ⟨nU HO_3.out⟩, ⟨rU HO_4.out⟩, ⟨rU HO_5.out⟩, ⟨nU HO_6.out⟩, ⟨rU HO_7.out⟩, ⟨wU HB.out⟩⟩
     rw [if_pos c27] at H
     have c27b0 : decide (x9_2 < 5) = true := decide_eq_true c27
     clear c27
     by_cases c28 : 0 ≤ x8_1
     rotate_left
     · rw [if_neg c28] at H
       exact absurd H (by simp)
     rw [if_pos c28] at H
     have c28b0 : decide (0 ≤ x8_1) = true := decide_eq_true c28
     clear c28
     by_cases c29 : x8_1 < (t346.length : Int)
     rotate_left
     · rw [if_neg c29] at H
       exact absurd H (by simp)
     rw [if_pos c29] at H
     have c29b0 : decide (x8_1 < (t346.length : Int)) = true := decide_eq_true c29
     clear c29
     by_cases c30 : 0 ≤ x9_2
     rotate_left
     · rw [if_neg c30] at H
       exact absurd H (by simp)
     rw [if_pos c30] at H
     have c30b0 : decide (0 ≤ x9_2) = true := decide_eq_true c30
     clear c30
     by_cases c31 : x9_2 < (y322.length : Int)
     rotate_left
     · rw [if_neg c31] at H
       exact absurd H (by simp)
     rw [if_pos c31] at H
     have c31b0 : decide (x9_2 < (y322.length : Int)) = true := decide_eq_true c31
     clear c31; have HC32 := Aside0.mk H; clear H
     try go_wp2
     have n0_ := Aside0.mk (Kd.N_drew HO_3.out)
     have n1_ := Aside0.mk (Kd.R_drew HO_4.out)
     have n2_ := Aside0.mk (Kd.R_drew HO_5.out)
     have n3_ := Aside0.mk (Kd.N_drew HO_6.out)
     have n4_ := Aside0.mk (Kd.R_drew HO_7.out)
     have n5_ := Aside0.mk (below_drew1 HB.out)
     clear HO_3 HO_4 HO_5 HO_6 HO_7 HB; have HO_3 := n0_; have HO_4 := n1_; have HO_5 := n2_; have HO_6 := n3_; have HO_7 := n4_; have HB := n5_; clear n0_ n1_ n2_ n3_ n4_ n5_
     have p349 : 0 ≤ (x8_1 : Int) := of_decide_eq_true (by first | (with_reducible assumption) | assumption)
     have q349 : x8_1 < (t346.length : Int) := of_decide_eq_true (by first | (with_reducible assumption) | assumption)
     obtain ⟨ad349, e349, hx349_0, hx349_1⟩ := at_T35 (Kd.R_reads' HO_7.out).2.2 x8_1 p349 q349
     cases e349; replace p349 := eq_true p349; replace q349 := eq_true q349
     have p350 : 0 ≤ (x8_1 : Int) := of_decide_eq_true (by first | (with_reducible assumption) | assumption)
     have q350 : x8_1 < (t346.length : Int) := of_decide_eq_true (by first | (with_reducible assumption) | assumption)
     obtain ⟨ad350, e350, hx350_0, hx350_1⟩ := at_T35 (Kd.R_reads' HO_7.out).2.2 x8_1 p350 q350
     obtain rfl : ad349 = ad350 := (by injection e350)
     replace p350 := eq_true p350; replace q350 := eq_true q350
     refine start_ (n := 13) (S := fun w' => w'.cell? (ad349.add ((x8_1).toNat * 2)) = some (.int .i64 ((rd_T35 t346 x8_1).f0)) ∧ w'.cell? ⟨(ad349.add ((x8_1).toNat * 2)).block, (ad349.add ((x8_1).toNat * 2)).off + 1, none⟩ = some (.int .i64 ((rd_T35 t346 x8_1).f1)) ∧ w'.cell? (ad349.add ((x8_1).toNat * 2)) = some (.int .i64 ((rd_T35 t346 x8_1).f0)) ∧ w'.cell? ⟨(ad349.add ((x8_1).toNat * 2)).block, (ad349.add ((x8_1).toNat * 2)).off + 1, none⟩ = some (.int .i64 ((rd_T35 t346 x8_1).f1))) (ds := []) #[false, false, false, false, false, false, false, false, false, false, false, false, false] (by kernel_rfl) rfl rfl ⟨hx349_0, hx349_1, hx350_0, hx350_1⟩ (fun hHeld => ?_); refine with_tabW exegeteref03_Of.tab12 exegeteref03_Of.bits12 (fun HT_ HW_ => ?_)
     generalize wr.drew = w33 at HO_3 HO_4 HO_5 HO_6 HO_7 HB hx349_0 hx349_1 hx350_0 hx350_1 hHeld ⊢
     refine pure_ (i := 0) (N := some 42) (v := ?_) (a' := ?_) #[true, false, false, false, false, false, false, false, false, false, false, false, false] rfl rfl (any_of HT_.out (by kernel_rfl)) (fun _ _ _ h => h) (Or.inl ⟨by rfl, ?_⟩) ?_ ?_
     rotate_left
     · intro w'
       go_simp
       with_reducible rfl
     rotate_left
     · simp only [Act.put, qA, qB, qC, i64_w, i32_w]
       rfl
     refine pure_ (i := 1) (N := some 43) (v := ?_) (a' := ?_) #[true, true, false, false, false, false, false, false, false, false, false, false, false] rfl rfl (any_of HT_.out (by kernel_rfl)) (fun _ _ _ h => h) (Or.inl ⟨by rfl, ?_⟩) ?_ ?_
     rotate_left
     · intro w'
       go_simp
       with_reducible rfl
     rotate_left
     · simp only [Act.put, qA, qB, qC, i64_w, i32_w]
       rfl
     refine pure_ (i := 2) (N := some 44) (v := ?_) (a' := ?_) #[true, true, true, false, false, false, false, false, false, false, false, false, false] rfl rfl (any_of HT_.out (by kernel_rfl)) (fun _ _ _ h => h) (Or.inl ⟨by rfl, ?_⟩) ?_ ?_
     rotate_left
     · intro w'
       go_simp
       with_reducible rfl
     rotate_left
     · simp only [Act.put, qA, qB, qC, i64_w, i32_w]
       rfl
     refine pure_ (i := 3) (N := some 45) (v := ?_) (a' := ?_) #[true, true, true, true, false, false, false, false, false, false, false, false, false] rfl rfl (any_of HT_.out (by kernel_rfl)) (fun _ _ _ h => h) (Or.inl ⟨by rfl, ?_⟩) ?_ ?_
     rotate_left
     · intro w'
       go_simp
       with_reducible rfl
     rotate_left
     · simp only [Act.put, qA, qB, qC, i64_w, i32_w]
       rfl
     refine pure_ (i := 5) (N := some 47) (v := ?_) (a' := ?_) #[true, true, true, true, false, true, false, false, false, false, false, false, false] rfl rfl (any_of HT_.out (by kernel_rfl)) (fun _ _ _ h => h) (Or.inl ⟨by rfl, ?_⟩) ?_ ?_
     rotate_left
     · intro w'
       go_simp
       with_reducible rfl
     rotate_left
     · simp only [Act.put, qA, qB, qC, i64_w, i32_w]
       rfl
     refine pure_ (i := 6) (N := some 48) (v := ?_) (a' := ?_) #[true, true, true, true, false, true, true, false, false, false, false, false, false] rfl rfl (any_of HT_.out (by kernel_rfl)) (fun _ _ _ h => h) (Or.inl ⟨by rfl, ?_⟩) ?_ ?_
     rotate_left
     · intro w'
       go_simp
       with_reducible rfl
     rotate_left
     · simp only [Act.put, qA, qB, qC, i64_w, i32_w]
       rfl
     refine pure_ (i := 7) (N := some 49) (v := ?_) (a' := ?_) #[true, true, true, true, false, true, true, true, false, false, false, false, false] rfl rfl (any_of HT_.out (by kernel_rfl)) (fun _ _ _ h => h) (Or.inl ⟨by rfl, ?_⟩) ?_ ?_
     rotate_left
     · intro w'
       go_simp
       with_reducible rfl
     rotate_left
     · simp only [Act.put, qA, qB, qC, i64_w, i32_w]
       rfl
     refine pure_ (i := 8) (N := some 50) (v := ?_) (a' := ?_) #[true, true, true, true, false, true, true, true, true, false, false, false, false] rfl rfl (any_of HT_.out (by kernel_rfl)) (fun _ _ _ h => h) (Or.inl ⟨by rfl, ?_⟩) ?_ ?_
     rotate_left
     · intro w'
       go_simp
       with_reducible rfl
     rotate_left
     · simp only [Act.put, qA, qB, qC, i64_w, i32_w]
       rfl
     refine take_ (i := 4) (N := some 46) (v := ?_) (a' := ?_) #[true, true, true, true, true, true, true, true, true, false, false, false, false] rfl rfl (take_ofW HT_.out HW_.out (by kernel_rfl)) (fun _ _ _ h => h) (Or.inl ⟨by rfl, ?_⟩) hHeld ?_ ?_
     rotate_left
     · rintro w' ⟨s0, s1, s2, s3⟩
       go_simp
       with_reducible rfl
     rotate_left
     · simp only [Act.put, qA, qB, qC, i64_w, i32_w]
       rfl
     refine take_ (i := 9) (N := some 51) (v := ?_) (a' := ?_) #[true, true, true, true, true, true, true, true, true, true, false, false, false] rfl rfl (take_ofW HT_.out HW_.out (by kernel_rfl)) (fun _ _ _ h => h) (Or.inl ⟨by rfl, ?_⟩) hHeld ?_ ?_
     rotate_left
     · rintro w' ⟨s0, s1, s2, s3⟩
       go_simp
       with_reducible rfl
     rotate_left
     · simp only [Act.put, qA, qB, qC, i64_w, i32_w]
       rfl
     refine pure_ (i := 10) (N := some 52) (v := ?_) (a' := ?_) #[true, true, true, true, true, true, true, true, true, true, true, false, false] rfl rfl (any_of HT_.out (by kernel_rfl)) (fun _ _ _ h => h) (Or.inl ⟨by rfl, ?_⟩) ?_ ?_
     rotate_left
     · intro w'
       go_simp
       with_reducible rfl
     rotate_left
     · simp only [Act.put, qA, qB, qC, i64_w, i32_w]
       rfl
     refine one_ (i := 11) (N := some 10) #[true, true, true, true, true, true, true, true, true, true, true, true, false] rfl rfl (one_of HT_.out (by kernel_rfl)) (by decide) (fun K hK => ?_)
     refine box_step ?hg (N := 10) ?hd (cs := #[.int .i64 0, .int .i64 0]) (t := 35) ?hr ?_; (case hd => rfl); (case hg => rfl); (case hr => first | (go_simp; done) | (go_simp; rfl))
     intro gb351 hg w34 hbox hb
     have HS0_ := (hb.cell (World.block_lt_of_cell? _ _ (hHeld.1))).trans (hHeld.1)
     have HS1_ := (hb.cell (World.block_lt_of_cell? _ _ (hHeld.2.1))).trans (hHeld.2.1)
     have HS2_ := (hb.cell (World.block_lt_of_cell? _ _ (hHeld.2.2.1))).trans (hHeld.2.2.1)
     have HS3_ := (hb.cell (World.block_lt_of_cell? _ _ (hHeld.2.2.2))).trans (hHeld.2.2.2)
     have n0_ := Aside0.mk (Kd.N_below (Kd.N_elderB (nU HO_3.out) gb351 (Nat.le_of_eq hg.symm)) hb)
     have n1_ := Aside0.mk (Kd.R_below (rU HO_4.out) hb)
     have n2_ := Aside0.mk (Kd.R_below (rU HO_5.out) hb)
     have n3_ := Aside0.mk (Kd.N_below (Kd.N_elderB (nU HO_6.out) gb351 (Nat.le_of_eq hg.symm)) hb)
     have n4_ := Aside0.mk (Kd.R_below (Kd.R_elderB (rU HO_7.out) gb351 (Nat.le_of_eq hg.symm)) hb)
     have n5_ := Aside0.mk (below_step (wU HB.out) hb)
     have n6_ := Aside0.mk (hbox)
     have n7_ := Aside0.mk ((by rw [hg]; exact (below_size (wU HB.out)) : w.heap.size ≤ gb351))
     have n8_ := Aside0.mk ((by rw [hg]; exact (below_size (wU HB.out)) : w.heap.size ≤ gb351))
     clear HO_3 HO_4 HO_5 HO_6 HO_7 HB; have HO_3 := n0_; have HO_4 := n1_; have HO_5 := n2_; have HO_6 := n3_; have HO_7 := n4_; have HB := n5_; have BK351 := n6_; have GW351 := n7_; have GE351 := n8_; clear n0_ n1_ n2_ n3_ n4_ n5_ n6_ n7_ n8_ hb hbox hg
     refine hK.out _ _ ⟨HS0_, HS1_, HS2_, HS3_⟩ (fun hHeld => ?_)
     clear hK K
     refine norm_ (a' := ?_) ?_ ?_
     rotate_left
     · show Act.put _ (some 10) _ = _
       simp only [Act.put, qA, qB, qC, i64_w, i32_w]
       rfl
     refine one_ (i := 12) (N := none) #[true, true, true, true, true, true, true, true, true, true, true, true, true] rfl rfl (one_of HT_.out (by kernel_rfl)) (by decide) (fun K hK => ?_)
     have hs35 : w34.cell? ⟨gb351, 0, none⟩ = some (.int .i64 0) := (blk_cell BK351.out 0).trans rfl
     have hfs35 := blk_frozen BK351.out 0
     have hs36 : w34.cell? ⟨gb351, 1, none⟩ = some (.int .i64 0) := (blk_cell BK351.out 1).trans rfl
     have hfs36 := blk_frozen BK351.out 1
     refine skip_ (w1 := ?_) (by rfl) rfl ?_ ?_
     rotate_left
     · go_simp
       rfl
     refine hK.out _ _ ⟨((cell_far (p := ⟨gb351, _, none⟩) (by first | exact Kd.own_blk (Kd.R_away HO_7.out (fun _ hk => hk.2)) | (rw [add_block]; exact Kd.own_blk (Kd.R_away HO_7.out (fun _ hk => hk.2))) | (show (Addr.add _ _).block ≠ _; rw [add_block]; exact Kd.own_blk (Kd.R_away HO_7.out (fun _ hk => hk.2))) | (dsimp only; exact Kd.own_blk (Kd.R_away HO_7.out (fun _ hk => hk.2)))) _).trans (((cell_far (p := ⟨gb351, _, none⟩) (by first | exact Kd.own_blk (Kd.R_away HO_7.out (fun _ hk => hk.2)) | (rw [add_block]; exact Kd.own_blk (Kd.R_away HO_7.out (fun _ hk => hk.2))) | (show (Addr.add _ _).block ≠ _; rw [add_block]; exact Kd.own_blk (Kd.R_away HO_7.out (fun _ hk => hk.2))) | (dsimp only; exact Kd.own_blk (Kd.R_away HO_7.out (fun _ hk => hk.2)))) _).trans (hHeld.1)))), ((cell_far (p := ⟨gb351, _, none⟩) (by first | exact Kd.own_blk (Kd.R_away HO_7.out (fun _ hk => hk.2)) | (rw [add_block]; exact Kd.own_blk (Kd.R_away HO_7.out (fun _ hk => hk.2))) | (show (Addr.add _ _).block ≠ _; rw [add_block]; exact Kd.own_blk (Kd.R_away HO_7.out (fun _ hk => hk.2))) | (dsimp only; exact Kd.own_blk (Kd.R_away HO_7.out (fun _ hk => hk.2)))) _).trans (((cell_far (p := ⟨gb351, _, none⟩) (by first | exact Kd.own_blk (Kd.R_away HO_7.out (fun _ hk => hk.2)) | (rw [add_block]; exact Kd.own_blk (Kd.R_away HO_7.out (fun _ hk => hk.2))) | (show (Addr.add _ _).block ≠ _; rw [add_block]; exact Kd.own_blk (Kd.R_away HO_7.out (fun _ hk => hk.2))) | (dsimp only; exact Kd.own_blk (Kd.R_away HO_7.out (fun _ hk => hk.2)))) _).trans (hHeld.2.1)))), ((cell_far (p := ⟨gb351, _, none⟩) (by first | exact Kd.own_blk (Kd.R_away HO_7.out (fun _ hk => hk.2)) | (rw [add_block]; exact Kd.own_blk (Kd.R_away HO_7.out (fun _ hk => hk.2))) | (show (Addr.add _ _).block ≠ _; rw [add_block]; exact Kd.own_blk (Kd.R_away HO_7.out (fun _ hk => hk.2))) | (dsimp only; exact Kd.own_blk (Kd.R_away HO_7.out (fun _ hk => hk.2)))) _).trans (((cell_far (p := ⟨gb351, _, none⟩) (by first | exact Kd.own_blk (Kd.R_away HO_7.out (fun _ hk => hk.2)) | (rw [add_block]; exact Kd.own_blk (Kd.R_away HO_7.out (fun _ hk => hk.2))) | (show (Addr.add _ _).block ≠ _; rw [add_block]; exact Kd.own_blk (Kd.R_away HO_7.out (fun _ hk => hk.2))) | (dsimp only; exact Kd.own_blk (Kd.R_away HO_7.out (fun _ hk => hk.2)))) _).trans (hHeld.2.2.1)))), ((cell_far (p := ⟨gb351, _, none⟩) (by first | exact Kd.own_blk (Kd.R_away HO_7.out (fun _ hk => hk.2)) | (rw [add_block]; exact Kd.own_blk (Kd.R_away HO_7.out (fun _ hk => hk.2))) | (show (Addr.add _ _).block ≠ _; rw [add_block]; exact Kd.own_blk (Kd.R_away HO_7.out (fun _ hk => hk.2))) | (dsimp only; exact Kd.own_blk (Kd.R_away HO_7.out (fun _ hk => hk.2)))) _).trans (((cell_far (p := ⟨gb351, _, none⟩) (by first | exact Kd.own_blk (Kd.R_away HO_7.out (fun _ hk => hk.2)) | (rw [add_block]; exact Kd.own_blk (Kd.R_away HO_7.out (fun _ hk => hk.2))) | (show (Addr.add _ _).block ≠ _; rw [add_block]; exact Kd.own_blk (Kd.R_away HO_7.out (fun _ hk => hk.2))) | (dsimp only; exact Kd.own_blk (Kd.R_away HO_7.out (fun _ hk => hk.2)))) _).trans (hHeld.2.2.2))))⟩ (fun hHeld => ?_)
     clear hK K
     refine done_ (done_of HT_.out (by kernel_rfl)) ?_
     try go_wp2
     have n0_ : Aside0 (Kd.N (Kd.slice 35 k35) 22 ((w34.setCell ⟨gb351, 0, none⟩ (.int .i64 ((rd_T35 t346 x8_1).f0))).setCell ⟨gb351, 1, none⟩ (.int .i64 ((rd_T35 t346 x8_1).f1))) w.heap.size (fun k_ => (w.heap.size ≤ k_) ∧ some k_ ≠ (v323 : Value).ownBlock ∧ some k_ ≠ (v326 : Value).ownBlock ∧ some k_ ≠ (v344 : Value).ownBlock ∧ some k_ ≠ (.slice (some ad349) t346.length co26 : Value).ownBlock ∧ k_ ≠ gb351) u3 x3_2) := ⟨by (with_reducible repeat (first | apply Kd.N_alloc | apply Kd.N_drewN | apply Kd.N_drew)); exact Kd.N_mono (Kd.N_far (p := ⟨gb351, 1, none⟩) (Kd.N_far (p := ⟨gb351, 0, none⟩) (Kd.N_mono HO_3.out (fun k_ hk => (⟨hk, hk.2⟩ : _ ∧ k_ ≠ gb351))) (fun _ hk => hk.2) (.int .i64 ((rd_T35 t346 x8_1).f0))) (fun _ hk => hk.2) (.int .i64 ((rd_T35 t346 x8_1).f1))) (fun _ hk => ⟨hk.1.1.1, ⟨hk.1.1.2.1, ⟨hk.1.1.2.2.1, ⟨hk.1.1.2.2.2.1, ⟨hk.1.1.2.2.2.2, hk.1.2⟩⟩⟩⟩⟩)⟩
     have n1_ : Aside0 (Kd.R (Kd.int .i64) 3 ((w34.setCell ⟨gb351, 0, none⟩ (.int .i64 ((rd_T35 t346 x8_1).f0))).setCell ⟨gb351, 1, none⟩ (.int .i64 ((rd_T35 t346 x8_1).f1))) w.heap.size (fun k_ => (w.heap.size ≤ k_) ∧ some k_ ≠ (v326 : Value).ownBlock) v323 y322) := ⟨by (with_reducible repeat (first | apply Kd.R_alloc | apply Kd.R_drewN | apply Kd.R_drew)); exact Kd.R_mono (Kd.R_far (p := ⟨gb351, 1, none⟩) (Kd.R_far (p := ⟨gb351, 0, none⟩) (Kd.R_types HO_4.out BK351.out (by decide)) (fun _ hk => hk.2) (.int .i64 ((rd_T35 t346 x8_1).f0))) (fun _ hk => hk.2) (.int .i64 ((rd_T35 t346 x8_1).f1))) (fun _ hk => ⟨hk.1.1, hk.1.2⟩)⟩
     have n2_ : Aside0 (Kd.R (Kd.int .i64) 3 ((w34.setCell ⟨gb351, 0, none⟩ (.int .i64 ((rd_T35 t346 x8_1).f0))).setCell ⟨gb351, 1, none⟩ (.int .i64 ((rd_T35 t346 x8_1).f1))) w.heap.size (fun k_ => (w.heap.size ≤ k_) ∧ some k_ ≠ (v323 : Value).ownBlock) v326 y325) := ⟨by (with_reducible repeat (first | apply Kd.R_alloc | apply Kd.R_drewN | apply Kd.R_drew)); exact Kd.R_mono (Kd.R_far (p := ⟨gb351, 1, none⟩) (Kd.R_far (p := ⟨gb351, 0, none⟩) (Kd.R_types HO_5.out BK351.out (by decide)) (fun _ hk => hk.2) (.int .i64 ((rd_T35 t346 x8_1).f0))) (fun _ hk => hk.2) (.int .i64 ((rd_T35 t346 x8_1).f1))) (fun _ hk => ⟨hk.1.1, hk.1.2⟩)⟩
     have n3_ : Aside0 (Kd.N (Kd.slice 3 (Kd.int .i64)) 48 ((w34.setCell ⟨gb351, 0, none⟩ (.int .i64 ((rd_T35 t346 x8_1).f0))).setCell ⟨gb351, 1, none⟩ (.int .i64 ((rd_T35 t346 x8_1).f1))) w.heap.size (fun k_ => (w.heap.size ≤ k_) ∧ some k_ ≠ (u3 : Value).ownBlock ∧ some k_ ≠ (v323 : Value).ownBlock ∧ some k_ ≠ (v326 : Value).ownBlock ∧ some k_ ≠ (.slice (some ad349) t346.length co26 : Value).ownBlock ∧ k_ ≠ gb351) v344 y343) := ⟨by (with_reducible repeat (first | apply Kd.N_alloc | apply Kd.N_drewN | apply Kd.N_drew)); exact Kd.N_mono (Kd.N_far (p := ⟨gb351, 1, none⟩) (Kd.N_far (p := ⟨gb351, 0, none⟩) (Kd.N_mono HO_6.out (fun k_ hk => (⟨hk, hk.2⟩ : _ ∧ k_ ≠ gb351))) (fun _ hk => hk.2) (.int .i64 ((rd_T35 t346 x8_1).f0))) (fun _ hk => hk.2) (.int .i64 ((rd_T35 t346 x8_1).f1))) (fun _ hk => ⟨hk.1.1.1, ⟨hk.1.1.2.1, ⟨hk.1.1.2.2.1, ⟨hk.1.1.2.2.2.1, ⟨hk.1.1.2.2.2.2, hk.1.2⟩⟩⟩⟩⟩)⟩
     have n4_ : Aside0 (Kd.R k35 35 ((w34.setCell ⟨gb351, 0, none⟩ (.int .i64 ((rd_T35 t346 x8_1).f0))).setCell ⟨gb351, 1, none⟩ (.int .i64 ((rd_T35 t346 x8_1).f1))) w.heap.size (fun k_ => (w.heap.size ≤ k_) ∧ k_ ≠ gb351) (.slice (some ad349) t346.length co26) t346) := ⟨by (with_reducible repeat (first | apply Kd.R_alloc | apply Kd.R_drewN | apply Kd.R_drew)); exact Kd.R_mono (Kd.R_far (p := ⟨gb351, 1, none⟩) (Kd.R_far (p := ⟨gb351, 0, none⟩) (Kd.R_mono HO_7.out (fun k_ hk => (⟨hk, hk.2⟩ : _ ∧ k_ ≠ gb351))) (fun _ hk => hk.2) (.int .i64 ((rd_T35 t346 x8_1).f0))) (fun _ hk => hk.2) (.int .i64 ((rd_T35 t346 x8_1).f1))) (fun _ hk => ⟨hk.1.1, hk.1.2⟩)⟩
     have n5_ : Aside0 (((w34.setCell ⟨gb351, 0, none⟩ (.int .i64 ((rd_T35 t346 x8_1).f0))).setCell ⟨gb351, 1, none⟩ (.int .i64 ((rd_T35 t346 x8_1).f1))).heap[gb351]? = some (.cells #[.int .i64 ((rd_T35 t346 x8_1).f0), .int .i64 ((rd_T35 t346 x8_1).f1)] 35 (0, 0))) := ⟨by (with_reducible repeat (first | refine blk_drewN ?_ _ | refine blk_drew ?_ | refine blk_alloc ?_ _)); refine blk_put (cs := #[.int .i64 ((rd_T35 t346 x8_1).f0), .int .i64 0]) ?_ 1 _ rfl; (with_reducible repeat (first | refine blk_drewN ?_ _ | refine blk_drew ?_ | refine blk_alloc ?_ _)); refine blk_put (cs := #[.int .i64 0, .int .i64 0]) ?_ 0 _ rfl; (with_reducible repeat (first | refine blk_drewN ?_ _ | refine blk_drew ?_ | refine blk_alloc ?_ _)); exact BK351.out⟩
     have n6_ : Aside0 (Below w.heap.size w ((w34.setCell ⟨gb351, 0, none⟩ (.int .i64 ((rd_T35 t346 x8_1).f0))).setCell ⟨gb351, 1, none⟩ (.int .i64 ((rd_T35 t346 x8_1).f1)))) := ⟨wV HB.out GE351.out⟩
     (try clear HO_3); (try clear HO_4); (try clear HO_5); (try clear HO_6); (try clear HO_7); (try clear BK351); (try clear HB)
     generalize ((w34.setCell ⟨gb351, 0, none⟩ (.int .i64 ((rd_T35 t346 x8_1).f0))).setCell ⟨gb351, 1, none⟩ (.int .i64 ((rd_T35 t346 x8_1).f1))) = w37 at n0_ n1_ n2_ n3_ n4_ n5_ n6_ ⊢
     have HO_3 := n0_; have HO_4 := n1_; have HO_5 := n2_; have HO_6 := n3_; have HO_7 := n4_; have BK351 := n5_; have HB := n6_; clear n0_ n1_ n2_ n3_ n4_ n5_ n6_
     have n0_ := Aside0.mk (Kd.N_drew HO_3.out)
     have n1_ := Aside0.mk (Kd.R_drew HO_4.out)
     have n2_ := Aside0.mk (Kd.R_drew HO_5.out)
     have n3_ := Aside0.mk (Kd.N_drew HO_6.out)
     have n4_ := Aside0.mk (Kd.R_drew HO_7.out)
     have n5_ := Aside0.mk (blk_drew BK351.out)
     have n6_ := Aside0.mk (below_drew1 HB.out)
     clear HO_3 HO_4 HO_5 HO_6 HO_7 BK351 HB; have HO_3 := n0_; have HO_4 := n1_; have HO_5 := n2_; have HO_6 := n3_; have HO_7 := n4_; have BK351 := n5_; have HB := n6_; clear n0_ n1_ n2_ n3_ n4_ n5_ n6_
     obtain ⟨Ao39, co39, eo39⟩ := Kd.R_slice HO_4.out
     (first | subst eo39 | (injection eo39 with f1_ f2_ f3_; have f4_ := f1_.symm; have f5_ := f3_.symm; clear f1_ f2_ f3_; subst f4_; subst f5_))
     have p352 : 0 ≤ (x9_2 : Int) := of_decide_eq_true (by first | (with_reducible assumption) | assumption)
     have q352 : x9_2 < (y322.length : Int) := of_decide_eq_true (by first | (with_reducible assumption) | assumption)
     obtain ⟨ad352, e352, hx352_0⟩ := Kd.at_int (Kd.R_reads' HO_4.out).2.2 x9_2 p352 q352
     cases e352; replace p352 := eq_true p352; replace q352 := eq_true q352
     refine start_ (n := 7) (S := fun w' => w'.cell? ⟨gb351, 0, none⟩ = some (.int .i64 ((rd_T35 t346 x8_1).f0)) ∧ w'.cell? ⟨gb351, 1, none⟩ = some (.int .i64 ((rd_T35 t346 x8_1).f1)) ∧ w'.cell? (ad352.add (x9_2).toNat) = some (.int .i64 (rd y322 x9_2))) (ds := []) #[false, false, false, false, false, false, false] (by kernel_rfl) rfl rfl ⟨(blk_cell BK351.out 0).trans rfl, (blk_cell BK351.out 1).trans rfl, hx352_0⟩ (fun hHeld => ?_)
     generalize w37.drew = w38 at HO_3 HO_4 HO_5 HO_6 HO_7 BK351 HB hx352_0 hHeld ⊢
     refine pure_ (i := 0) (N := some 53) (v := ?_) (a' := ?_) #[true, false, false, false, false, false, false] rfl rfl (by kernel_rfl) (fun _ _ _ h => h) (Or.inl ⟨by rfl, ?_⟩) ?_ ?_
     rotate_left
     · intro w'
       go_simp
       with_reducible rfl
     rotate_left
     · simp only [Act.put, qA, qB, qC, i64_w, i32_w]
       rfl
     refine pure_ (i := 2) (N := some 55) (v := ?_) (a' := ?_) #[true, false, true, false, false, false, false] rfl rfl (by kernel_rfl) (fun _ _ _ h => h) (Or.inl ⟨by rfl, ?_⟩) ?_ ?_
     rotate_left
     · intro w'
       go_simp
       with_reducible rfl
     rotate_left
     · simp only [Act.put, qA, qB, qC, i64_w, i32_w]
       rfl
     refine pure_ (i := 3) (N := some 56) (v := ?_) (a' := ?_) #[true, false, true, true, false, false, false] rfl rfl (by kernel_rfl) (fun _ _ _ h => h) (Or.inl ⟨by rfl, ?_⟩) ?_ ?_
     rotate_left
     · intro w'
       go_simp
       with_reducible rfl
     rotate_left
     · simp only [Act.put, qA, qB, qC, i64_w, i32_w]
       rfl
     refine pure_ (i := 4) (N := some 57) (v := ?_) (a' := ?_) #[true, false, true, true, true, false, false] rfl rfl (by kernel_rfl) (fun _ _ _ h => h) (Or.inl ⟨by rfl, ?_⟩) ?_ ?_
     rotate_left
     · intro w'
       go_simp
       with_reducible rfl
     rotate_left
     · simp only [Act.put, qA, qB, qC, i64_w, i32_w]
       rfl
     refine take_ (i := 1) (N := some 54) (v := ?_) (a' := ?_) #[true, true, true, true, true, false, false] rfl rfl (by kernel_rfl) (fun _ _ _ h => h) (Or.inl ⟨by rfl, ?_⟩) hHeld ?_ ?_
     rotate_left
     · rintro w' ⟨s0, s1, s2⟩
       go_simp
       with_reducible rfl
     rotate_left
     · simp only [Act.put, qA, qB, qC, i64_w, i32_w]
       rfl
     refine take_ (i := 5) (N := some 58) (v := ?_) (a' := ?_) #[true, true, true, true, true, true, false] rfl rfl (by kernel_rfl) (fun _ _ _ h => h) (Or.inl ⟨by rfl, ?_⟩) hHeld ?_ ?_
     rotate_left
     · rintro w' ⟨s0, s1, s2⟩
       go_simp
       with_reducible rfl
     rotate_left
     · simp only [Act.put, qA, qB, qC, i64_w, i32_w]
       rfl
     refine pure_ (i := 6) (N := some 59) (v := ?_) (a' := ?_) #[true, true, true, true, true, true, true] rfl rfl (by kernel_rfl) (fun _ _ _ h => h) (Or.inl ⟨by rfl, ?_⟩) ?_ ?_
     rotate_left
     · intro w'
       go_simp
       with_reducible rfl
     rotate_left
     · simp only [Act.put, qA, qB, qC, i64_w, i32_w]
       rfl
     refine done_ (by kernel_rfl) ?_
     go_upto_if 59 with (fail)
     go_cut [] (fun wc => ∃ (kq : Nat) (x352000_31 : Int), Aside0 (exegeteref03_Of.j2 kq x3_2 y322 y325 y343 t346 x8_1 x9_2 x352000_31 ((rd_T35 t346 x8_1).f1) = some r) ∧ Aside0 (kq ≤ k2) ∧ Aside0 (Kd.N (Kd.slice 35 k35) 22 wc w.heap.size (fun k_ => (w.heap.size ≤ k_) ∧ some k_ ≠ ((.slice (some ad352) y322.length co39) : Value).ownBlock ∧ some k_ ≠ (v326 : Value).ownBlock ∧ some k_ ≠ (v344 : Value).ownBlock ∧ some k_ ≠ ((.slice (some ad349) t346.length co26) : Value).ownBlock ∧ k_ ≠ gb351) u3 x3_2) ∧ Aside0 (Kd.R (Kd.int .i64) 3 wc w.heap.size (fun k_ => (w.heap.size ≤ k_) ∧ some k_ ≠ (v326 : Value).ownBlock) (.slice (some ad352) y322.length co39) y322) ∧ Aside0 (Kd.R (Kd.int .i64) 3 wc w.heap.size (fun k_ => (w.heap.size ≤ k_) ∧ some k_ ≠ ((.slice (some ad352) y322.length co39) : Value).ownBlock) v326 y325) ∧ Aside0 (Kd.N (Kd.slice 3 (Kd.int .i64)) 48 wc w.heap.size (fun k_ => (w.heap.size ≤ k_) ∧ some k_ ≠ (u3 : Value).ownBlock ∧ some k_ ≠ ((.slice (some ad352) y322.length co39) : Value).ownBlock ∧ some k_ ≠ (v326 : Value).ownBlock ∧ some k_ ≠ ((.slice (some ad349) t346.length co26) : Value).ownBlock ∧ k_ ≠ gb351) v344 y343) ∧ Aside0 (Kd.R k35 35 wc w.heap.size (fun k_ => (w.heap.size ≤ k_) ∧ k_ ≠ gb351) (.slice (some ad349) t346.length co26) t346) ∧ Aside0 (wc.heap[gb351]? = some (.cells #[.int .i64 x352000_31, .int .i64 ((rd_T35 t346 x8_1).f1)] 35 (0, 0))) ∧ Aside0 (Below w.heap.size w wc))
     case first =>
      have H := HC32.out
      clear HC32
      by_cases c40 : ((rd_T35 t346 x8_1).f0) < (rd y322 x9_2)
      · rw [if_pos c40] at H
        have c40b0 : decide (((rd_T35 t346 x8_1).f0) < (rd y322 x9_2)) = true := decide_eq_true c40
        clear c40
        (first | rw [c40b0] | (simp only [i64_w, i32_w]; rw [c40b0]) | skip)
        have H' := Aside0.mk H; clear H
        have p353 : 0 ≤ (x9_2 : Int) := of_decide_eq_true (by first | (with_reducible assumption) | assumption)
        have q353 : x9_2 < (y322.length : Int) := of_decide_eq_true (by first | (with_reducible assumption) | assumption)
        obtain ⟨ad353, e353, hx353_0⟩ := Kd.at_int (Kd.R_reads' HO_4.out).2.2 x9_2 p353 q353
        obtain rfl : ad352 = ad353 := (by injection e353)
        replace p353 := eq_true p353; replace q353 := eq_true q353
        have hcz41_0 : w38.cell? ⟨gb351, 0, none⟩ = some (.int .i64 ((rd_T35 t346 x8_1).f0)) := (blk_cell BK351.out 0).trans rfl
        have hcz41_1 : w38.cell? ⟨gb351, 1, none⟩ = some (.int .i64 ((rd_T35 t346 x8_1).f1)) := (blk_cell BK351.out 1).trans rfl
        have hfz41_0 := blk_frozen BK351.out 0
        have hfz41_1 := blk_frozen BK351.out 1
        go_wp2
        go_meet
        case rel => exact ⟨_, (rd y322 x9_2), H', ⟨by have := HK1.out; have := HK2.out; first | omega | exact Nat.le_refl _⟩, ⟨by (with_reducible repeat (first | apply Kd.N_alloc | apply Kd.N_drewN | apply Kd.N_drew)); exact Kd.N_mono (Kd.N_far (p := ⟨gb351, 0, none⟩) (Kd.N_mono HO_3.out (fun k_ hk => (⟨hk, hk.2.2.2.2.2⟩ : _ ∧ k_ ≠ gb351))) (fun _ hk => hk.2) (.int .i64 (rd y322 x9_2))) (fun _ hk => ⟨hk.1.1, ⟨hk.1.2.1, ⟨hk.1.2.2.1, ⟨hk.1.2.2.2.1, ⟨hk.1.2.2.2.2.1, hk.1.2.2.2.2.2⟩⟩⟩⟩⟩)⟩, ⟨by (with_reducible repeat (first | apply Kd.R_alloc | apply Kd.R_drewN | apply Kd.R_drew)); exact Kd.R_mono (Kd.R_far (p := ⟨gb351, 0, none⟩) (Kd.R_types HO_4.out BK351.out (by decide)) (fun _ hk => hk.2) (.int .i64 (rd y322 x9_2))) (fun _ hk => ⟨hk.1.1, hk.1.2⟩)⟩, ⟨by (with_reducible repeat (first | apply Kd.R_alloc | apply Kd.R_drewN | apply Kd.R_drew)); exact Kd.R_mono (Kd.R_far (p := ⟨gb351, 0, none⟩) (Kd.R_types HO_5.out BK351.out (by decide)) (fun _ hk => hk.2) (.int .i64 (rd y322 x9_2))) (fun _ hk => ⟨hk.1.1, hk.1.2⟩)⟩, ⟨by (with_reducible repeat (first | apply Kd.N_alloc | apply Kd.N_drewN | apply Kd.N_drew)); exact Kd.N_mono (Kd.N_far (p := ⟨gb351, 0, none⟩) (Kd.N_mono HO_6.out (fun k_ hk => (⟨hk, hk.2.2.2.2.2⟩ : _ ∧ k_ ≠ gb351))) (fun _ hk => hk.2) (.int .i64 (rd y322 x9_2))) (fun _ hk => ⟨hk.1.1, ⟨hk.1.2.1, ⟨hk.1.2.2.1, ⟨hk.1.2.2.2.1, ⟨hk.1.2.2.2.2.1, hk.1.2.2.2.2.2⟩⟩⟩⟩⟩)⟩, ⟨by (with_reducible repeat (first | apply Kd.R_alloc | apply Kd.R_drewN | apply Kd.R_drew)); exact Kd.R_mono (Kd.R_far (p := ⟨gb351, 0, none⟩) (Kd.R_mono HO_7.out (fun k_ hk => (⟨hk, hk.2⟩ : _ ∧ k_ ≠ gb351))) (fun _ hk => hk.2) (.int .i64 (rd y322 x9_2))) (fun _ hk => ⟨hk.1.1, hk.1.2⟩)⟩, ⟨by (with_reducible repeat (first | refine blk_drewN ?_ _ | refine blk_drew ?_ | refine blk_alloc ?_ _)); refine blk_put (cs := #[.int .i64 ((rd_T35 t346 x8_1).f0), .int .i64 ((rd_T35 t346 x8_1).f1)]) ?_ 0 _ rfl; (with_reducible repeat (first | refine blk_drewN ?_ _ | refine blk_drew ?_ | refine blk_alloc ?_ _)); exact BK351.out⟩, ⟨wV HB.out GE351.out⟩⟩
      rw [if_neg c40] at H
      have c40b0 : decide (((rd_T35 t346 x8_1).f0) < (rd y322 x9_2)) = false := decide_eq_false c40
      clear c40
      (first | rw [c40b0] | (simp only [i64_w, i32_w]; rw [c40b0]) | skip)
      have H' := Aside0.mk H; clear H
      go_wp2
      go_meet
      case rel => exact ⟨_, ((rd_T35 t346 x8_1).f0), H', ⟨by have := HK1.out; have := HK2.out; first | omega | exact Nat.le_refl _⟩, ⟨nU HO_3.out⟩, ⟨rU HO_4.out⟩, ⟨rU HO_5.out⟩, ⟨nU HO_6.out⟩, ⟨rU HO_7.out⟩, ⟨bU BK351.out⟩, ⟨wV HB.out GE351.out⟩⟩
     case rest =>
      clear HC32; (try clear c2); (try clear p2); (try clear c3); (try clear p3); (try clear q3); (try clear hx3); (try clear c4); (try clear c5); (try clear c6); (try clear c25); (try clear c25b0); (try clear c27); (try clear c27b0); (try clear c28); (try clear c28b0); (try clear c29); (try clear c29b0); (try clear c30); (try clear c30b0); (try clear c31); (try clear c31b0); (try clear p34); (try clear q34)
      (try clear hx34); (try clear p35); (try clear q35); (try clear hx35); (try clear c40); (try clear c40b0); (try clear hcz41_0); (try clear hcz41_1); (try clear hfz41_0); (try clear hfz41_1); (try clear hx349_0); (try clear hx349_1); (try clear hx350_0); (try clear hx350_1); (try clear hx352_0); (try clear hx353_0); (try clear p2); (try clear p349); (try clear p350); (try clear p352); (try clear p353)
      (try clear q349); (try clear q350); (try clear q352); (try clear q353)
      obtain ⟨kq, x352000_31, HA, HJ31, HO_3, HO_4, HO_5, HO_6, HO_7, BK351, HB⟩ := hcut
      cases kq with
      | zero => exact absurd HA.out (by simp [exegeteref03_Of.j2])
      | succ kj31 =>
       have H := HA.out
       clear HA
       simp only [exegeteref03_Of.j2] at H
       by_cases c42 : 0 ≤ x9_2
       rotate_left
       · rw [if_neg c42] at H
         exact absurd H (by simp)
       rw [if_pos c42] at H
       have c42b0 : decide (0 ≤ x9_2) = true := decide_eq_true c42
       clear c42
       by_cases c43 : x9_2 < (y325.length : Int)
       rotate_left
       · rw [if_neg c43] at H
         exact absurd H (by simp)
       rw [if_pos c43] at H
       have c43b0 : decide (x9_2 < (y325.length : Int)) = true := decide_eq_true c43
       clear c43; have HC44 := Aside0.mk H; clear H
       try go_wp2
       have n0_ := Aside0.mk (Kd.N_drew HO_3.out)
       have n1_ := Aside0.mk (Kd.R_drew HO_4.out)
       have n2_ := Aside0.mk (Kd.R_drew HO_5.out)
       have n3_ := Aside0.mk (Kd.N_drew HO_6.out)
       have n4_ := Aside0.mk (Kd.R_drew HO_7.out)
       have n5_ := Aside0.mk (blk_drew BK351.out)
       have n6_ := Aside0.mk (below_drew1 HB.out)
       clear HO_3 HO_4 HO_5 HO_6 HO_7 BK351 HB; have HO_3 := n0_; have HO_4 := n1_; have HO_5 := n2_; have HO_6 := n3_; have HO_7 := n4_; have BK351 := n5_; have HB := n6_; clear n0_ n1_ n2_ n3_ n4_ n5_ n6_
       obtain ⟨Ao46, co46, eo46⟩ := Kd.R_slice HO_5.out
       (first | subst eo46 | (injection eo46 with f1_ f2_ f3_; have f4_ := f1_.symm; have f5_ := f3_.symm; clear f1_ f2_ f3_; subst f4_; subst f5_))
       have p354 : 0 ≤ (x9_2 : Int) := of_decide_eq_true (by first | (with_reducible assumption) | assumption)
       have q354 : x9_2 < (y325.length : Int) := of_decide_eq_true (by first | (with_reducible assumption) | assumption)
       obtain ⟨ad354, e354, hx354_0⟩ := Kd.at_int (Kd.R_reads' HO_5.out).2.2 x9_2 p354 q354
       cases e354; replace p354 := eq_true p354; replace q354 := eq_true q354
       refine start_ (n := 7) (S := fun w' => w'.cell? ⟨gb351, 0, none⟩ = some (.int .i64 x352000_31) ∧ w'.cell? ⟨gb351, 1, none⟩ = some (.int .i64 ((rd_T35 t346 x8_1).f1)) ∧ w'.cell? (ad354.add (x9_2).toNat) = some (.int .i64 (rd y325 x9_2))) (ds := []) #[false, false, false, false, false, false, false] (by kernel_rfl) rfl rfl ⟨(blk_cell BK351.out 0).trans rfl, (blk_cell BK351.out 1).trans rfl, hx354_0⟩ (fun hHeld => ?_)
       generalize wc.drew = w45 at HO_3 HO_4 HO_5 HO_6 HO_7 BK351 HB hx354_0 hHeld ⊢
       refine pure_ (i := 0) (N := some 65) (v := ?_) (a' := ?_) #[true, false, false, false, false, false, false] rfl rfl (by kernel_rfl) (fun _ _ _ h => h) (Or.inl ⟨by rfl, ?_⟩) ?_ ?_
       rotate_left
       · intro w'
         go_simp
         with_reducible rfl
       rotate_left
       · simp only [Act.put, qA, qB, qC, i64_w, i32_w]
         rfl
       refine pure_ (i := 2) (N := some 67) (v := ?_) (a' := ?_) #[true, false, true, false, false, false, false] rfl rfl (by kernel_rfl) (fun _ _ _ h => h) (Or.inl ⟨by rfl, ?_⟩) ?_ ?_
       rotate_left
       · intro w'
         go_simp
         with_reducible rfl
       rotate_left
       · simp only [Act.put, qA, qB, qC, i64_w, i32_w]
         rfl
       refine pure_ (i := 3) (N := some 68) (v := ?_) (a' := ?_) #[true, false, true, true, false, false, false] rfl rfl (by kernel_rfl) (fun _ _ _ h => h) (Or.inl ⟨by rfl, ?_⟩) ?_ ?_
       rotate_left
       · intro w'
         go_simp
         with_reducible rfl
       rotate_left
       · simp only [Act.put, qA, qB, qC, i64_w, i32_w]
         rfl
       refine pure_ (i := 4) (N := some 69) (v := ?_) (a' := ?_) #[true, false, true, true, true, false, false] rfl rfl (by kernel_rfl) (fun _ _ _ h => h) (Or.inl ⟨by rfl, ?_⟩) ?_ ?_
       rotate_left
       · intro w'
         go_simp
         with_reducible rfl
       rotate_left
       · simp only [Act.put, qA, qB, qC, i64_w, i32_w]
         rfl
       refine take_ (i := 1) (N := some 66) (v := ?_) (a' := ?_) #[true, true, true, true, true, false, false] rfl rfl (by kernel_rfl) (fun _ _ _ h => h) (Or.inl ⟨by rfl, ?_⟩) hHeld ?_ ?_
       rotate_left
       · rintro w' ⟨s0, s1, s2⟩
         go_simp
         with_reducible rfl
       rotate_left
       · simp only [Act.put, qA, qB, qC, i64_w, i32_w]
         rfl
       refine take_ (i := 5) (N := some 70) (v := ?_) (a' := ?_) #[true, true, true, true, true, true, false] rfl rfl (by kernel_rfl) (fun _ _ _ h => h) (Or.inl ⟨by rfl, ?_⟩) hHeld ?_ ?_
       rotate_left
       · rintro w' ⟨s0, s1, s2⟩
         go_simp
         with_reducible rfl
       rotate_left
       · simp only [Act.put, qA, qB, qC, i64_w, i32_w]
         rfl
       refine pure_ (i := 6) (N := some 71) (v := ?_) (a' := ?_) #[true, true, true, true, true, true, true] rfl rfl (by kernel_rfl) (fun _ _ _ h => h) (Or.inl ⟨by rfl, ?_⟩) ?_ ?_
       rotate_left
       · intro w'
         go_simp
         with_reducible rfl
       rotate_left
       · simp only [Act.put, qA, qB, qC, i64_w, i32_w]
         rfl
       refine done_ (by kernel_rfl) ?_
       go_upto_if 71 with (fail)
       go_cut [] (fun wc => ∃ (kq : Nat) (x352001_43 : Int), Aside0 (exegeteref03_Of.j3 kq x3_2 y322 y325 y343 t346 x8_1 x9_2 x352000_31 x352001_43 = some r) ∧ Aside0 (kq ≤ kj31) ∧ Aside0 (Kd.N (Kd.slice 35 k35) 22 wc w.heap.size (fun k_ => (w.heap.size ≤ k_) ∧ some k_ ≠ ((.slice (some ad352) y322.length co39) : Value).ownBlock ∧ some k_ ≠ ((.slice (some ad354) y325.length co46) : Value).ownBlock ∧ some k_ ≠ (v344 : Value).ownBlock ∧ some k_ ≠ ((.slice (some ad349) t346.length co26) : Value).ownBlock ∧ k_ ≠ gb351) u3 x3_2) ∧ Aside0 (Kd.R (Kd.int .i64) 3 wc w.heap.size (fun k_ => (w.heap.size ≤ k_) ∧ some k_ ≠ ((.slice (some ad354) y325.length co46) : Value).ownBlock) (.slice (some ad352) y322.length co39) y322) ∧ Aside0 (Kd.R (Kd.int .i64) 3 wc w.heap.size (fun k_ => (w.heap.size ≤ k_) ∧ some k_ ≠ ((.slice (some ad352) y322.length co39) : Value).ownBlock) (.slice (some ad354) y325.length co46) y325) ∧ Aside0 (Kd.N (Kd.slice 3 (Kd.int .i64)) 48 wc w.heap.size (fun k_ => (w.heap.size ≤ k_) ∧ some k_ ≠ (u3 : Value).ownBlock ∧ some k_ ≠ ((.slice (some ad352) y322.length co39) : Value).ownBlock ∧ some k_ ≠ ((.slice (some ad354) y325.length co46) : Value).ownBlock ∧ some k_ ≠ ((.slice (some ad349) t346.length co26) : Value).ownBlock ∧ k_ ≠ gb351) v344 y343) ∧ Aside0 (Kd.R k35 35 wc w.heap.size (fun k_ => (w.heap.size ≤ k_) ∧ k_ ≠ gb351) (.slice (some ad349) t346.length co26) t346) ∧ Aside0 (wc.heap[gb351]? = some (.cells #[.int .i64 x352000_31, .int .i64 x352001_43] 35 (0, 0))) ∧ Aside0 (Below w.heap.size w wc))
       case first =>
        have H := HC44.out
        clear HC44
        by_cases c47 : ((rd_T35 t346 x8_1).f1) > (rd y325 x9_2)
        · rw [if_pos c47] at H
          have c47b0 : decide ((rd y325 x9_2) < ((rd_T35 t346 x8_1).f1)) = true := decide_eq_true c47
          clear c47
          (first | rw [c47b0] | (simp only [i64_w, i32_w]; rw [c47b0]) | skip)
          have H' := Aside0.mk H; clear H
          have p355 : 0 ≤ (x9_2 : Int) := of_decide_eq_true (by first | (with_reducible assumption) | assumption)
          have q355 : x9_2 < (y325.length : Int) := of_decide_eq_true (by first | (with_reducible assumption) | assumption)
          obtain ⟨ad355, e355, hx355_0⟩ := Kd.at_int (Kd.R_reads' HO_5.out).2.2 x9_2 p355 q355
          obtain rfl : ad354 = ad355 := (by injection e355)
          replace p355 := eq_true p355; replace q355 := eq_true q355
          have hcz48_0 : w45.cell? ⟨gb351, 0, none⟩ = some (.int .i64 x352000_31) := (blk_cell BK351.out 0).trans rfl
          have hcz48_1 : w45.cell? ⟨gb351, 1, none⟩ = some (.int .i64 ((rd_T35 t346 x8_1).f1)) := (blk_cell BK351.out 1).trans rfl
          have hfz48_0 := blk_frozen BK351.out 0
          have hfz48_1 := blk_frozen BK351.out 1
          go_wp2
          go_meet
          case rel => exact ⟨_, (rd y325 x9_2), H', ⟨by have := HK1.out; have := HK2.out; have := HJ31.out; first | omega | exact Nat.le_refl _⟩, ⟨by (with_reducible repeat (first | apply Kd.N_alloc | apply Kd.N_drewN | apply Kd.N_drew)); exact Kd.N_mono (Kd.N_far (p := ⟨gb351, 1, none⟩) (Kd.N_mono HO_3.out (fun k_ hk => (⟨hk, hk.2.2.2.2.2⟩ : _ ∧ k_ ≠ gb351))) (fun _ hk => hk.2) (.int .i64 (rd y325 x9_2))) (fun _ hk => ⟨hk.1.1, ⟨hk.1.2.1, ⟨hk.1.2.2.1, ⟨hk.1.2.2.2.1, ⟨hk.1.2.2.2.2.1, hk.1.2.2.2.2.2⟩⟩⟩⟩⟩)⟩, ⟨by (with_reducible repeat (first | apply Kd.R_alloc | apply Kd.R_drewN | apply Kd.R_drew)); exact Kd.R_mono (Kd.R_far (p := ⟨gb351, 1, none⟩) (Kd.R_types HO_4.out BK351.out (by decide)) (fun _ hk => hk.2) (.int .i64 (rd y325 x9_2))) (fun _ hk => ⟨hk.1.1, hk.1.2⟩)⟩, ⟨by (with_reducible repeat (first | apply Kd.R_alloc | apply Kd.R_drewN | apply Kd.R_drew)); exact Kd.R_mono (Kd.R_far (p := ⟨gb351, 1, none⟩) (Kd.R_types HO_5.out BK351.out (by decide)) (fun _ hk => hk.2) (.int .i64 (rd y325 x9_2))) (fun _ hk => ⟨hk.1.1, hk.1.2⟩)⟩, ⟨by (with_reducible repeat (first | apply Kd.N_alloc | apply Kd.N_drewN | apply Kd.N_drew)); exact Kd.N_mono (Kd.N_far (p := ⟨gb351, 1, none⟩) (Kd.N_mono HO_6.out (fun k_ hk => (⟨hk, hk.2.2.2.2.2⟩ : _ ∧ k_ ≠ gb351))) (fun _ hk => hk.2) (.int .i64 (rd y325 x9_2))) (fun _ hk => ⟨hk.1.1, ⟨hk.1.2.1, ⟨hk.1.2.2.1, ⟨hk.1.2.2.2.1, ⟨hk.1.2.2.2.2.1, hk.1.2.2.2.2.2⟩⟩⟩⟩⟩)⟩, ⟨by (with_reducible repeat (first | apply Kd.R_alloc | apply Kd.R_drewN | apply Kd.R_drew)); exact Kd.R_mono (Kd.R_far (p := ⟨gb351, 1, none⟩) (Kd.R_mono HO_7.out (fun k_ hk => (⟨hk, hk.2⟩ : _ ∧ k_ ≠ gb351))) (fun _ hk => hk.2) (.int .i64 (rd y325 x9_2))) (fun _ hk => ⟨hk.1.1, hk.1.2⟩)⟩, ⟨by (with_reducible repeat (first | refine blk_drewN ?_ _ | refine blk_drew ?_ | refine blk_alloc ?_ _)); refine blk_put (cs := #[.int .i64 x352000_31, .int .i64 ((rd_T35 t346 x8_1).f1)]) ?_ 1 _ rfl; (with_reducible repeat (first | refine blk_drewN ?_ _ | refine blk_drew ?_ | refine blk_alloc ?_ _)); exact BK351.out⟩, ⟨wV HB.out GE351.out⟩⟩
        rw [if_neg c47] at H
        have c47b0 : decide ((rd y325 x9_2) < ((rd_T35 t346 x8_1).f1)) = false := decide_eq_false c47
        clear c47
        (first | rw [c47b0] | (simp only [i64_w, i32_w]; rw [c47b0]) | skip)
        have H' := Aside0.mk H; clear H
        go_wp2
        go_meet
        case rel => exact ⟨_, (((rd_T35 t346 x8_1).f1)), H', ⟨by have := HK1.out; have := HK2.out; have := HJ31.out; first | omega | exact Nat.le_refl _⟩, ⟨nU HO_3.out⟩, ⟨rU HO_4.out⟩, ⟨rU HO_5.out⟩, ⟨nU HO_6.out⟩, ⟨rU HO_7.out⟩, ⟨bU BK351.out⟩, ⟨wV HB.out GE351.out⟩⟩
       case rest =>
        clear HC44; (try clear c2); (try clear p2); (try clear c3); (try clear p3); (try clear q3); (try clear hx3); (try clear c4); (try clear c5); (try clear c6); (try clear c25); (try clear c25b0); (try clear c27); (try clear c27b0); (try clear c28); (try clear c28b0); (try clear c29); (try clear c29b0); (try clear c30); (try clear c30b0); (try clear c31); (try clear c31b0); (try clear p34); (try clear q34)
        (try clear hx34); (try clear p35); (try clear q35); (try clear hx35); (try clear c40); (try clear c40b0); (try clear c42); (try clear c42b0); (try clear c43); (try clear c43b0); (try clear c47); (try clear c47b0); (try clear hcz41_0); (try clear hcz41_1); (try clear hcz48_0); (try clear hcz48_1); (try clear hfz41_0); (try clear hfz41_1); (try clear hfz48_0); (try clear hfz48_1); (try clear hx349_0)
        (try clear hx349_1); (try clear hx350_0); (try clear hx350_1); (try clear hx352_0); (try clear hx353_0); (try clear hx354_0); (try clear hx355_0); (try clear p2); (try clear p3); (try clear p34); (try clear p349); (try clear p35); (try clear p350); (try clear p352); (try clear p353); (try clear p354); (try clear p355); (try clear q3); (try clear q34); (try clear q349); (try clear q35); (try clear q350)
        (try clear q352); (try clear q353); (try clear q354); (try clear q355)
        obtain ⟨kq, x352001_43, HA, HJ43, HO_3, HO_4, HO_5, HO_6, HO_7, BK351, HB⟩ := hcut
        cases kq with
        | zero => exact absurd HA.out (by simp [exegeteref03_Of.j3])
        | succ kj43 =>
         have H := HA.out
         clear HA
         simp only [exegeteref03_Of.j3] at H
         by_cases c49 : x352000_31 > x352001_43
         · rw [if_pos c49] at H
           have c49b0 : decide (x352001_43 < x352000_31) = true := decide_eq_true c49
           clear c49; have H' := Aside0.mk H; clear H
           have hcz50_0 : wc.cell? ⟨gb351, 0, none⟩ = some (.int .i64 x352000_31) := (blk_cell BK351.out 0).trans rfl
           have hcz50_1 : wc.cell? ⟨gb351, 1, none⟩ = some (.int .i64 x352001_43) := (blk_cell BK351.out 1).trans rfl
           have hfz50_0 := blk_frozen BK351.out 0
           have hfz50_1 := blk_frozen BK351.out 1
           go_wp2
           go_roundg kj43
           case measure => have := HK1.out; have := HK2.out; have := HJ31.out; have := HJ43.out; omega
           case rel => exact ⟨(x3_2), (wrap64 (x9_2 + 1)), (by first | rfl | (simp; done) | (simp [*]; done) | (simp [*, bne]; done)), H', ⟨by have := HK1.out; have := HK2.out; have := HJ31.out; have := HJ43.out; omega⟩, ⟨by (with_reducible repeat (first | apply Kd.N_alloc | apply Kd.N_drewN | apply Kd.N_drew)); exact Kd.N_mono HO_3.out (fun _ hk => ⟨hk.1, ⟨hk.2.1, ⟨hk.2.2.1, ⟨hk.2.2.2.1, hk.2.2.2.2.1⟩⟩⟩⟩)⟩, ⟨rU HO_4.out⟩, ⟨rU HO_5.out⟩, ⟨by (with_reducible repeat (first | apply Kd.N_alloc | apply Kd.N_drewN | apply Kd.N_drew)); exact Kd.N_mono HO_6.out (fun _ hk => ⟨hk.1, ⟨hk.2.1, ⟨hk.2.2.1, ⟨hk.2.2.2.1, hk.2.2.2.2.1⟩⟩⟩⟩)⟩, ⟨by (with_reducible repeat (first | apply Kd.R_alloc | apply Kd.R_drewN | apply Kd.R_drew)); exact Kd.R_mono HO_7.out (fun _ hk => hk.1)⟩, ⟨wV HB.out GE351.out⟩⟩
         rw [if_neg c49] at H
         have c49b0 : decide (x352001_43 < x352000_31) = false := decide_eq_false c49
         clear c49
         obtain ⟨y356, hy356⟩ : ∃ y_ : List (S35), y_ = (([(⟨x352000_31, x352001_43⟩ : S35)] : List (S35))) := ⟨_, rfl⟩
         replace H : (exegeteref03_Of.l2 kj43 x3_2 y322 y325 y343 t346 x8_1 x9_2 y356 0) = some r := by first | (rw [hy356]; with_reducible exact H) | (have H2_ := (Option.bind_some _ _).symm.trans H; rw [hy356]; with_reducible exact H2_) | (have H2_ := (Option.bind_some _ _).symm.trans H; with_reducible exact H2_) | with_reducible exact H | (rw [hy356]; exact H) | exact H
         have Ny356 := Aside0.mk hy356
         clear hy356; have H' := Aside0.mk H; clear H
         have hcz51_0 : wc.cell? ⟨gb351, 0, none⟩ = some (.int .i64 x352000_31) := (blk_cell BK351.out 0).trans rfl
         have hcz51_1 : wc.cell? ⟨gb351, 1, none⟩ = some (.int .i64 x352001_43) := (blk_cell BK351.out 1).trans rfl
         have hfz51_0 := blk_frozen BK351.out 0
         have hfz51_1 := blk_frozen BK351.out 1
         go_wp2_with (first | ((with_reducible refine gate_dst (N := 83) rfl ?_); refine Kd.R_lit k35 _ 35 ?hg (N := 83) ?hd (xs := ([(⟨x352000_31, x352001_43⟩ : S35)] : List (S35))) (inner := [.int .i64 x352000_31, .int .i64 x352001_43]) (ok := fun _ => True) (okp := fun _ => True) ?hr ?hp (fun _ hk => hk) trivial (Below.refl _ _) (Nat.le_refl _) (by simp) ?_; (case hd => rfl); (case hg => rfl); (case hr => first | (go_simp; done) | (go_simp; rfl)); (case hp => exact (Reps.c2 (show Kd.M k35 _ _ _ (⟨x352000_31, x352001_43⟩ : S35) [.int .i64 x352000_31, .int .i64 x352001_43] from (k35_mkM _ _ _ (⟨x352000_31, x352001_43⟩ : S35) )) (Reps.none _ _))); intro v357 w52 ho53 hb hg_ hnew_; clear hg_ hnew_; (first | rw [← Ny356.out] at ho53 | (simp only [Int.reduceToNat] at ho53; rw [← Ny356.out] at ho53)); have n0_ := Aside0.mk (Kd.N_elder' (nU HO_3.out) (Kd.R_base ho53) hb); have n1_ := Aside0.mk (Kd.R_below (rU HO_4.out) hb); have n2_ := Aside0.mk (Kd.R_below (rU HO_5.out) hb); have n3_ := Aside0.mk (Kd.N_elder' (nU HO_6.out) (Kd.R_base ho53) hb); have n4_ := Aside0.mk (Kd.R_elder' (rU HO_7.out) (Kd.R_base ho53) hb); have n5_ := Aside0.mk (Kd.R_lower (Kd.R_newB (Kd.R_new' (Kd.R_newM (M := fun k_ => (w.heap.size ≤ k_)) ho53 (below_size (wV HB.out GE351.out)) (fun k_ h_ => h_)) (Kd.R_lt (rU HO_7.out))) (g := gb351) (o := .cells #[.int .i64 x352000_31, .int .i64 x352001_43] 35 (0, 0)) (bU BK351.out)) (below_size (wV HB.out GE351.out))); have n6_ := Aside0.mk (blk_below (g := gb351) (o := .cells #[.int .i64 x352000_31, .int .i64 x352001_43] 35 (0, 0)) (bU BK351.out) hb); have n7_ := Aside0.mk (below_step (wV HB.out GE351.out) hb); clear HO_3; clear HO_4; clear HO_5; clear HO_6; clear HO_7; clear BK351; clear HB; have HO_3 := n0_; have HO_4 := n1_; have HO_5 := n2_; have HO_6 := n3_; have HO_7 := n4_; have HO358 := n5_; have BK351 := n6_; have HB := n7_; clear n0_ n1_ n2_ n3_ n4_ n5_ n6_ n7_; clear hb ho53))
         go_loopg [11, 12] kj43 (fun kq v11 v12 w' => ∃ (x11_5 : List (S35)) (x12_5 : Int), v12 = .int .i64 x12_5 ∧ Aside0 (exegeteref03_Of.l2 kq x3_2 y322 y325 y343 t346 x8_1 x9_2 x11_5 x12_5 = some r) ∧ Aside0 (kq ≤ kj43) ∧ Aside0 (Kd.N (Kd.slice 35 k35) 22 w' w.heap.size (fun k_ => (w.heap.size ≤ k_) ∧ some k_ ≠ ((.slice (some ad352) y322.length co39) : Value).ownBlock ∧ some k_ ≠ ((.slice (some ad354) y325.length co46) : Value).ownBlock ∧ some k_ ≠ (v344 : Value).ownBlock ∧ some k_ ≠ ((.slice (some ad349) t346.length co26) : Value).ownBlock ∧ some k_ ≠ (v11 : Value).ownBlock ∧ k_ ≠ gb351) u3 x3_2) ∧ Aside0 (Kd.R (Kd.int .i64) 3 w' w.heap.size (fun k_ => (w.heap.size ≤ k_) ∧ some k_ ≠ ((.slice (some ad354) y325.length co46) : Value).ownBlock) (.slice (some ad352) y322.length co39) y322) ∧ Aside0 (Kd.R (Kd.int .i64) 3 w' w.heap.size (fun k_ => (w.heap.size ≤ k_) ∧ some k_ ≠ ((.slice (some ad352) y322.length co39) : Value).ownBlock) (.slice (some ad354) y325.length co46) y325) ∧ Aside0 (Kd.N (Kd.slice 3 (Kd.int .i64)) 48 w' w.heap.size (fun k_ => (w.heap.size ≤ k_) ∧ some k_ ≠ (u3 : Value).ownBlock ∧ some k_ ≠ ((.slice (some ad352) y322.length co39) : Value).ownBlock ∧ some k_ ≠ ((.slice (some ad354) y325.length co46) : Value).ownBlock ∧ some k_ ≠ ((.slice (some ad349) t346.length co26) : Value).ownBlock ∧ some k_ ≠ (v11 : Value).ownBlock ∧ k_ ≠ gb351) v344 y343) ∧ Aside0 (Kd.R k35 35 w' w.heap.size (fun k_ => (w.heap.size ≤ k_) ∧ some k_ ≠ (v11 : Value).ownBlock ∧ k_ ≠ gb351) (.slice (some ad349) t346.length co26) t346) ∧ Aside0 (Kd.R k35 35 w' w.heap.size (fun k_ => (w.heap.size ≤ k_) ∧ some k_ ≠ ((.slice (some ad349) t346.length co26) : Value).ownBlock ∧ k_ ≠ gb351) v11 x11_5) ∧ Aside0 (w'.heap[gb351]? = some (.cells #[.int .i64 x352000_31, .int .i64 x352001_43] 35 (0, 0))) ∧ Aside0 (Below w.heap.size w w'))
         case atStart => exact ⟨(y356), (0), (by first | rfl | (simp; done) | (simp [*]; done) | (simp [*, bne]; done)), H', ⟨Nat.le_refl _⟩, ⟨by (with_reducible repeat (first | apply Kd.N_alloc | apply Kd.N_drewN | apply Kd.N_drew)); exact Kd.N_mono HO_3.out (fun _ hk => ⟨hk.1.1, ⟨hk.1.2.1, ⟨hk.1.2.2.1, ⟨hk.1.2.2.2.1, ⟨hk.1.2.2.2.2.1, ⟨hk.2, hk.1.2.2.2.2.2⟩⟩⟩⟩⟩⟩)⟩, ⟨rU HO_4.out⟩, ⟨rU HO_5.out⟩, ⟨by (with_reducible repeat (first | apply Kd.N_alloc | apply Kd.N_drewN | apply Kd.N_drew)); exact Kd.N_mono HO_6.out (fun _ hk => ⟨hk.1.1, ⟨hk.1.2.1, ⟨hk.1.2.2.1, ⟨hk.1.2.2.2.1, ⟨hk.1.2.2.2.2.1, ⟨hk.2, hk.1.2.2.2.2.2⟩⟩⟩⟩⟩⟩)⟩, ⟨by (with_reducible repeat (first | apply Kd.R_alloc | apply Kd.R_drewN | apply Kd.R_drew)); exact Kd.R_mono HO_7.out (fun _ hk => ⟨hk.1.1, ⟨hk.2, hk.1.2⟩⟩)⟩, ⟨by (with_reducible repeat (first | apply Kd.R_alloc | apply Kd.R_drewN | apply Kd.R_drew)); exact Kd.R_mono HO358.out (fun _ hk => ⟨hk.1.1.1, ⟨hk.1.2, hk.2⟩⟩)⟩, ⟨bU BK351.out⟩, ⟨wV HB.out GE351.out⟩⟩
         case round =>
          clear H'; (try clear c2); (try clear p2); (try clear c3); (try clear p3); (try clear q3); (try clear hx3); (try clear c4); (try clear c5); (try clear c6); (try clear p6); (try clear c25); (try clear c25b0); (try clear c27); (try clear c27b0); (try clear c28); (try clear c28b0); (try clear c29); (try clear c29b0); (try clear c30); (try clear c30b0); (try clear c31); (try clear c31b0); (try clear p34)
          (try clear q34); (try clear hx34); (try clear p35); (try clear q35); (try clear hx35); (try clear c40); (try clear c40b0); (try clear c42); (try clear c42b0); (try clear c43); (try clear c43b0); (try clear c47); (try clear c47b0); (try clear c49); (try clear c49b0); (try clear hcz41_0); (try clear hcz41_1); (try clear hcz48_0); (try clear hcz48_1); (try clear hcz50_0); (try clear hcz50_1); (try clear hcz51_0)
          (try clear hcz51_1); (try clear hfz41_0); (try clear hfz41_1); (try clear hfz48_0); (try clear hfz48_1); (try clear hfz50_0); (try clear hfz50_1); (try clear hfz51_0); (try clear hfz51_1); (try clear hx349_0); (try clear hx349_1); (try clear hx350_0); (try clear hx350_1); (try clear hx352_0); (try clear hx353_0); (try clear hx354_0); (try clear hx355_0); (try clear p2); (try clear p3); (try clear p34)
          (try clear p349); (try clear p35); (try clear p350); (try clear p352); (try clear p353); (try clear p354); (try clear p355); (try clear q3); (try clear q34); (try clear q349); (try clear q35); (try clear q350); (try clear q352); (try clear q353); (try clear q354); (try clear q355)
          obtain ⟨x11_5, x12_5, rfl, HA, HK5, HO_3, HO_4, HO_5, HO_6, HO_7, HO_11, BK351, HB⟩ := hrel
          cases gk with
          | zero => exact absurd HA.out (by simp [exegeteref03_Of.l2])
          | succ k5 =>
           have H := HA.out
           clear HA
           simp only [exegeteref03_Of.l2] at H
           by_cases c54 : 0 ≤ x9_2
           rotate_left
           · rw [if_neg c54] at H
             exact absurd H (by simp)
           rw [if_pos c54] at H
           have c54b0 : decide (0 ≤ x9_2) = true := decide_eq_true c54
           clear c54
           by_cases c55 : x9_2 < (y343.length : Int)
           rotate_left
           · rw [if_neg c55] at H
             exact absurd H (by simp)
           rw [if_pos c55] at H
           have c55b0 : decide (x9_2 < (y343.length : Int)) = true := decide_eq_true c55
           clear c55
           by_cases c56 : x12_5 < ((rd_L7 y343 x9_2).length : Int)
           · rw [if_pos c56] at H
             have c56b0 : decide (x12_5 < ((rd_L7 y343 x9_2).length : Int)) = true := decide_eq_true c56
             clear c56; have H' := Aside0.mk H; clear H
             obtain ⟨Ao57, co57, eo57⟩ := Kd.N_slice HO_6.out
             subst eo57
             have p359 : 0 ≤ (x9_2 : Int) := of_decide_eq_true (by first | (with_reducible assumption) | assumption)
             have q359 : x9_2 < (y343.length : Int) := of_decide_eq_true (by first | (with_reducible assumption) | assumption)
             obtain ⟨ad359, A359_0, c359_0, e359, hx359_0, hl359_0, hi359_0⟩ := at_L7 (Kd.N_reads' HO_6.out).2.2 x9_2 p359 q359
             cases e359
             obtain ⟨ce359, hce359, hMe359, hcc359⟩ := Kd.N_get HO_6.out [] x9_2 p359 (by first | exact q359 | exact of_decide_eq_true (by first | (with_reducible assumption) | assumption) | (have e_ := (Kd.N_reads' HO_6.out).1; omega))
             obtain ⟨ua359_0, uc359_0, rfl, ul359_0, ge359_0⟩ := Kd.FK_slice_open hMe359
             have hv359_0 := hcc359 0 _ rfl
             rw [Nat.add_zero, show ((Kd.slice 3 (Kd.int .i64))).sz = 1 from rfl, Nat.mul_one] at hv359_0
             replace hv359_0 := Option.some.inj (hv359_0.symm.trans hx359_0)
             injection hv359_0 with hva_ hvn_ hvc_
             rw [hva_] at ge359_0
             rw [hvc_] at ul359_0
             have HL359_0 := Aside0.mk (show Kd.V (Kd.int .i64) 3 _ w.heap.size _ _ (rd_L7 y343 x9_2) from Kd.V_mk ul359_0 ge359_0)
             clear hva_ hvn_ hvc_ ge359_0 ul359_0 hcc359 hce359
             have HR359_0 := Aside0.mk hi359_0
             have HC359_0 := Aside0.mk hl359_0
             clear hi359_0 hl359_0; replace p359 := eq_true p359; replace q359 := eq_true q359
             go_wp2
             go_loopg [13, 14] k5 (fun kq v13 v14 w' => ∃ (x13_6 : List (S35)) (x14_6 : Int), v14 = .int .i64 x14_6 ∧ Aside0 (exegeteref03_Of.l3 kq x3_2 y322 y325 y343 t346 x8_1 x9_2 x11_5 x12_5 x13_6 x14_6 = some r) ∧ Aside0 (kq ≤ k5) ∧ Aside0 (Kd.N (Kd.slice 35 k35) 22 w' w.heap.size (fun k_ => (w.heap.size ≤ k_) ∧ some k_ ≠ ((.slice (some ad352) y322.length co39) : Value).ownBlock ∧ some k_ ≠ ((.slice (some ad354) y325.length co46) : Value).ownBlock ∧ some k_ ≠ ((.slice (some ad359) y343.length co57) : Value).ownBlock ∧ some k_ ≠ ((.slice (some ad349) t346.length co26) : Value).ownBlock ∧ some k_ ≠ (u11 : Value).ownBlock ∧ some k_ ≠ (v13 : Value).ownBlock ∧ k_ ≠ gb351) u3 x3_2) ∧ Aside0 (Kd.R (Kd.int .i64) 3 w' w.heap.size (fun k_ => (w.heap.size ≤ k_) ∧ some k_ ≠ ((.slice (some ad354) y325.length co46) : Value).ownBlock) (.slice (some ad352) y322.length co39) y322) ∧ Aside0 (Kd.R (Kd.int .i64) 3 w' w.heap.size (fun k_ => (w.heap.size ≤ k_) ∧ some k_ ≠ ((.slice (some ad352) y322.length co39) : Value).ownBlock) (.slice (some ad354) y325.length co46) y325) ∧ Aside0 (Kd.N (Kd.slice 3 (Kd.int .i64)) 48 w' w.heap.size (fun k_ => (w.heap.size ≤ k_) ∧ some k_ ≠ (u3 : Value).ownBlock ∧ some k_ ≠ ((.slice (some ad352) y322.length co39) : Value).ownBlock ∧ some k_ ≠ ((.slice (some ad354) y325.length co46) : Value).ownBlock ∧ some k_ ≠ ((.slice (some ad349) t346.length co26) : Value).ownBlock ∧ some k_ ≠ (u11 : Value).ownBlock ∧ some k_ ≠ (v13 : Value).ownBlock ∧ k_ ≠ gb351) (.slice (some ad359) y343.length co57) y343) ∧ Aside0 (Kd.R k35 35 w' w.heap.size (fun k_ => (w.heap.size ≤ k_) ∧ some k_ ≠ (u11 : Value).ownBlock ∧ some k_ ≠ (v13 : Value).ownBlock ∧ k_ ≠ gb351) (.slice (some ad349) t346.length co26) t346) ∧ Aside0 (Kd.R k35 35 w' w.heap.size (fun k_ => (w.heap.size ≤ k_) ∧ some k_ ≠ ((.slice (some ad349) t346.length co26) : Value).ownBlock ∧ some k_ ≠ (v13 : Value).ownBlock ∧ k_ ≠ gb351) u11 x11_5) ∧ Aside0 (Kd.R k35 35 w' w.heap.size (fun k_ => (w.heap.size ≤ k_) ∧ some k_ ≠ ((.slice (some ad349) t346.length co26) : Value).ownBlock ∧ some k_ ≠ (u11 : Value).ownBlock ∧ k_ ≠ gb351) v13 x13_6) ∧ Aside0 (w'.heap[gb351]? = some (.cells #[.int .i64 x352000_31, .int .i64 x352001_43] 35 (0, 0))) ∧ Aside0 (Below w.heap.size w w'))
             case atStart => exact ⟨(([] : List (S35))), (0), (by first | rfl | (simp; done) | (simp [*]; done) | (simp [*, bne]; done)), H', ⟨Nat.le_refl _⟩, ⟨by (with_reducible repeat (first | apply Kd.N_alloc | apply Kd.N_drewN | apply Kd.N_drew)); exact Kd.N_mono HO_3.out (fun _ hk => ⟨hk.1, ⟨hk.2.1, ⟨hk.2.2.1, ⟨hk.2.2.2.1, ⟨hk.2.2.2.2.1, ⟨hk.2.2.2.2.2.1, ⟨(by simp [Value.ownBlock]), hk.2.2.2.2.2.2⟩⟩⟩⟩⟩⟩⟩)⟩, ⟨rU HO_4.out⟩, ⟨rU HO_5.out⟩, ⟨by (with_reducible repeat (first | apply Kd.N_alloc | apply Kd.N_drewN | apply Kd.N_drew)); exact Kd.N_mono HO_6.out (fun _ hk => ⟨hk.1, ⟨hk.2.1, ⟨hk.2.2.1, ⟨hk.2.2.2.1, ⟨hk.2.2.2.2.1, ⟨hk.2.2.2.2.2.1, ⟨(by simp [Value.ownBlock]), hk.2.2.2.2.2.2⟩⟩⟩⟩⟩⟩⟩)⟩, ⟨by (with_reducible repeat (first | apply Kd.R_alloc | apply Kd.R_drewN | apply Kd.R_drew)); exact Kd.R_mono HO_7.out (fun _ hk => ⟨hk.1, ⟨hk.2.1, ⟨(by simp [Value.ownBlock]), hk.2.2⟩⟩⟩)⟩, ⟨by (with_reducible repeat (first | apply Kd.R_alloc | apply Kd.R_drewN | apply Kd.R_drew)); exact Kd.R_mono HO_11.out (fun _ hk => ⟨hk.1, ⟨hk.2.1, ⟨(by simp [Value.ownBlock]), hk.2.2⟩⟩⟩)⟩, ⟨by first | exact Kd.R_nil _ _ _ _ _ | exact Kd.N_nil _ _ _ _ _ | exact Kd.V_nil _ _ _ _ _ | exact Kd.Q_nil _ _ _ _ _ | exact Kd.S_nil _ _ _ _ _⟩, ⟨bU BK351.out⟩, ⟨wV HB.out GE351.out⟩⟩
             case round =>
              clear H'; (try clear c2); (try clear p2); (try clear c3); (try clear p3); (try clear q3); (try clear hx3); (try clear c4); (try clear c5); (try clear c6); (try clear p6); (try clear c25); (try clear c25b0); (try clear c27); (try clear c27b0); (try clear c28); (try clear c28b0); (try clear c29); (try clear c29b0); (try clear c30); (try clear c30b0); (try clear c31); (try clear c31b0); (try clear p34)
              (try clear q34); (try clear hx34); (try clear c35); (try clear p35); (try clear q35); (try clear hx35); (try clear c40); (try clear c40b0); (try clear c42); (try clear c42b0); (try clear c43); (try clear c43b0); (try clear c47); (try clear c47b0); (try clear c49); (try clear c49b0); (try clear c54); (try clear c54b0); (try clear c55); (try clear c55b0); (try clear c56); (try clear c56b0); (try clear hcz41_0)
              (try clear hcz41_1); (try clear hcz48_0); (try clear hcz48_1); (try clear hcz50_0); (try clear hcz50_1); (try clear hcz51_0); (try clear hcz51_1); (try clear hfz41_0); (try clear hfz41_1); (try clear hfz48_0); (try clear hfz48_1); (try clear hfz50_0); (try clear hfz50_1); (try clear hfz51_0); (try clear hfz51_1); (try clear hx349_0); (try clear hx349_1); (try clear hx350_0); (try clear hx350_1); (try clear hx352_0)
              (try clear hx353_0); (try clear hx354_0); (try clear hx355_0); (try clear hx359_0); (try clear p2); (try clear p3); (try clear p34); (try clear p349); (try clear p35); (try clear p350); (try clear p352); (try clear p353); (try clear p354); (try clear p355); (try clear p359); (try clear p6); (try clear q3); (try clear q34); (try clear q349); (try clear q35); (try clear q350); (try clear q352); (try clear q353)
              (try clear q354); (try clear q355); (try clear q359)
              obtain ⟨x13_6, x14_6, rfl, HA, HK6, HO_3, HO_4, HO_5, HO_6, HO_7, HO_11, HO_13, BK351, HB⟩ := hrel
              cases gk with
              | zero => exact absurd HA.out (by simp [exegeteref03_Of.l3])
              | succ k6 =>
               have H := HA.out
               clear HA
               simp only [exegeteref03_Of.l3] at H
               by_cases c58 : x14_6 < (x11_5.length : Int)
               rotate_left
               · rw [if_neg c58] at H
                 have c58b0 : decide (x14_6 < (x11_5.length : Int)) = false := decide_eq_false c58
                 clear c58; have H' := Aside0.mk H; clear H
                 obtain ⟨Ao71, co71, eo71⟩ := Kd.R_slice HO_11.out
                 subst eo71
                 go_wp2
                 go_roundg k6
                 case measure => have := HK1.out; have := HK2.out; have := HJ31.out; have := HJ43.out; have := HK5.out; have := HK6.out; omega
                 case rel => exact ⟨(x13_6), (wrap64 (x12_5 + 1)), (by first | rfl | (simp; done) | (simp [*]; done) | (simp [*, bne]; done)), H', ⟨by have := HK1.out; have := HK2.out; have := HJ31.out; have := HJ43.out; have := HK5.out; have := HK6.out; omega⟩, ⟨by (with_reducible repeat (first | apply Kd.N_alloc | apply Kd.N_drewN | apply Kd.N_drew)); exact Kd.N_mono HO_3.out (fun _ hk => ⟨hk.1, ⟨hk.2.1, ⟨hk.2.2.1, ⟨hk.2.2.2.1, ⟨hk.2.2.2.2.1, ⟨hk.2.2.2.2.2.2.1, hk.2.2.2.2.2.2.2⟩⟩⟩⟩⟩⟩)⟩, ⟨rU HO_4.out⟩, ⟨rU HO_5.out⟩, ⟨by (with_reducible repeat (first | apply Kd.N_alloc | apply Kd.N_drewN | apply Kd.N_drew)); exact Kd.N_mono HO_6.out (fun _ hk => ⟨hk.1, ⟨hk.2.1, ⟨hk.2.2.1, ⟨hk.2.2.2.1, ⟨hk.2.2.2.2.1, ⟨hk.2.2.2.2.2.2.1, hk.2.2.2.2.2.2.2⟩⟩⟩⟩⟩⟩)⟩, ⟨by (with_reducible repeat (first | apply Kd.R_alloc | apply Kd.R_drewN | apply Kd.R_drew)); exact Kd.R_mono HO_7.out (fun _ hk => ⟨hk.1, ⟨hk.2.2.1, hk.2.2.2⟩⟩)⟩, ⟨by (with_reducible repeat (first | apply Kd.R_alloc | apply Kd.R_drewN | apply Kd.R_drew)); exact Kd.R_mono HO_13.out (fun _ hk => ⟨hk.1, ⟨hk.2.1, hk.2.2.2⟩⟩)⟩, ⟨bU BK351.out⟩, ⟨wV HB.out GE351.out⟩⟩
               rw [if_pos c58] at H
               have c58b0 : decide (x14_6 < (x11_5.length : Int)) = true := decide_eq_true c58
               clear c58
               by_cases c59 : 0 ≤ x14_6
               rotate_left
               · rw [if_neg c59] at H
                 exact absurd H (by simp)
               rw [if_pos c59] at H
               have c59b0 : decide (0 ≤ x14_6) = true := decide_eq_true c59
               clear c59
               by_cases c60 : 0 ≤ x9_2
               rotate_left
               · rw [if_neg c60] at H
                 exact absurd H (by simp)
               rw [if_pos c60] at H
               have c60b0 : decide (0 ≤ x9_2) = true := decide_eq_true c60
               clear c60
               by_cases c61 : x9_2 < (y343.length : Int)
               rotate_left
               · rw [if_neg c61] at H
                 exact absurd H (by simp)
               rw [if_pos c61] at H
               have c61b0 : decide (x9_2 < (y343.length : Int)) = true := decide_eq_true c61
               clear c61
               by_cases c62 : 0 ≤ x12_5
               rotate_left
               · rw [if_neg c62] at H
                 exact absurd H (by simp)
               rw [if_pos c62] at H
               have c62b0 : decide (0 ≤ x12_5) = true := decide_eq_true c62
               clear c62
               by_cases c63 : x12_5 < ((rd_L7 y343 x9_2).length : Int)
               rotate_left
               · rw [if_neg c63] at H
                 exact absurd H (by simp)
               rw [if_pos c63] at H
               have c63b0 : decide (x12_5 < ((rd_L7 y343 x9_2).length : Int)) = true := decide_eq_true c63
               clear c63
               replace H := Option.bind_eq_some_iff.mp H
               obtain ⟨t363, A640, H⟩ := H
               replace H : (if x13_6.length + t363.length < 8796093022208 then (exegeteref03_Of.l3 k6 x3_2 y322 y325 y343 t346 x8_1 x9_2 x11_5 x12_5 (x13_6 ++ t363) (wrap64 (x14_6 + 1))) else (none)) = some r := H
               have A64 := Aside0.mk A640
               clear A640
               by_cases c65 : x13_6.length + t363.length < 8796093022208
               rotate_left
               · rw [if_neg c65] at H
                 exact absurd H (by simp)
               rw [if_pos c65] at H
               have LMc65 := Aside0.mk c65
               clear c65
               obtain ⟨y366, hy366⟩ : ∃ y_ : List (S35), y_ = (x13_6 ++ t363) := ⟨_, rfl⟩
               replace H : (exegeteref03_Of.l3 k6 x3_2 y322 y325 y343 t346 x8_1 x9_2 x11_5 x12_5 y366 (wrap64 (x14_6 + 1))) = some r := by first | (rw [hy366]; with_reducible exact H) | (have H2_ := (Option.bind_some _ _).symm.trans H; rw [hy366]; with_reducible exact H2_) | (have H2_ := (Option.bind_some _ _).symm.trans H; with_reducible exact H2_) | with_reducible exact H | (rw [hy366]; exact H) | exact H
               have Ny366 := Aside0.mk hy366
               clear hy366; have H' := Aside0.mk H; clear H
               obtain ⟨Ao66, co66, eo66⟩ := Kd.R_slice HO_11.out
               subst eo66
               try go_wp2
               have n0_ := Aside0.mk (Kd.N_drew HO_3.out)
               have n1_ := Aside0.mk (Kd.R_drew HO_4.out)
               have n2_ := Aside0.mk (Kd.R_drew HO_5.out)
               have n3_ := Aside0.mk (Kd.N_drew HO_6.out)
               have n4_ := Aside0.mk (Kd.R_drew HO_7.out)
               have n5_ := Aside0.mk (Kd.R_drew HO_11.out)
               have n6_ := Aside0.mk (Kd.R_drew HO_13.out)
               have n7_ := Aside0.mk (blk_drew BK351.out)
               have n8_ := Aside0.mk (below_drew1 HB.out)
               clear HO_3 HO_4 HO_5 HO_6 HO_7 HO_11 HO_13 BK351 HB; have HO_3 := n0_; have HO_4 := n1_; have HO_5 := n2_; have HO_6 := n3_; have HO_7 := n4_; have HO_11 := n5_; have HO_13 := n6_; have BK351 := n7_; have HB := n8_; clear n0_ n1_ n2_ n3_ n4_ n5_ n6_ n7_ n8_
               have p360 : 0 ≤ (x14_6 : Int) := of_decide_eq_true (by first | (with_reducible assumption) | assumption)
               have q360 : x14_6 < (x11_5.length : Int) := of_decide_eq_true (by first | (with_reducible assumption) | assumption)
               obtain ⟨ad360, e360, hx360_0, hx360_1⟩ := at_T35 (Kd.R_reads' HO_11.out).2.2 x14_6 p360 q360
               cases e360; replace p360 := eq_true p360; replace q360 := eq_true q360
               have p361 : 0 ≤ (x9_2 : Int) := of_decide_eq_true (by first | (with_reducible assumption) | assumption)
               have q361 : x9_2 < (y343.length : Int) := of_decide_eq_true (by first | (with_reducible assumption) | assumption)
               obtain ⟨ad361, A361_0, c361_0, e361, hx361_0, hl361_0, hi361_0⟩ := at_L7 (Kd.N_reads' HO_6.out).2.2 x9_2 p361 q361
               obtain rfl : ad359 = ad361 := (by injection e361)
               obtain ⟨ce361, hce361, hMe361, hcc361⟩ := Kd.N_get HO_6.out [] x9_2 p361 (by first | exact q361 | exact of_decide_eq_true (by first | (with_reducible assumption) | assumption) | (have e_ := (Kd.N_reads' HO_6.out).1; omega))
               obtain ⟨ua361_0, uc361_0, rfl, ul361_0, ge361_0⟩ := Kd.FK_slice_open hMe361
               have hv361_0 := hcc361 0 _ rfl
               rw [Nat.add_zero, show ((Kd.slice 3 (Kd.int .i64))).sz = 1 from rfl, Nat.mul_one] at hv361_0
               replace hv361_0 := Option.some.inj (hv361_0.symm.trans hx361_0)
               injection hv361_0 with hva_ hvn_ hvc_
               rw [hva_] at ge361_0
               rw [hvc_] at ul361_0
               have HL361_0 := Aside0.mk (show Kd.V (Kd.int .i64) 3 _ w.heap.size _ _ (rd_L7 y343 x9_2) from Kd.V_mk ul361_0 ge361_0)
               clear hva_ hvn_ hvc_ ge361_0 ul361_0 hcc361 hce361
               have HR361_0 := Aside0.mk hi361_0
               have HC361_0 := Aside0.mk hl361_0
               clear hi361_0 hl361_0; replace p361 := eq_true p361; replace q361 := eq_true q361
               have p362 : 0 ≤ (x12_5 : Int) := of_decide_eq_true (by first | (with_reducible assumption) | assumption)
               have q362 : x12_5 < ((rd_L7 y343 x9_2).length : Int) := of_decide_eq_true (by first | (with_reducible assumption) | assumption)
               obtain ⟨ad362, e362, hx362_0⟩ := Kd.at_int (by repeat (first | (with_reducible exact HR361_0.out) | (with_reducible refine Kd.C_alloc ?_ _) | (with_reducible refine Kd.C_drewN ?_ _) | (with_reducible refine Kd.C_drew ?_) | exact HR361_0.out)) x12_5 p362 q362
               cases e362; replace p362 := eq_true p362; replace q362 := eq_true q362
               refine start_ (n := 15) (S := fun w' => w'.cell? (ad360.add ((x14_6).toNat * 2)) = some (.int .i64 ((rd_T35 x11_5 x14_6).f0)) ∧ w'.cell? ⟨(ad360.add ((x14_6).toNat * 2)).block, (ad360.add ((x14_6).toNat * 2)).off + 1, none⟩ = some (.int .i64 ((rd_T35 x11_5 x14_6).f1)) ∧ w'.cell? (ad359.add (x9_2).toNat) = some (.slice (some ad362) (rd_L7 y343 x9_2).length c361_0) ∧ w'.cell? (ad362.add (x12_5).toNat) = some (.int .i64 (rd (rd_L7 y343 x9_2) x12_5))) (ds := [13]) #[false, false, false, false, false, false, false, false, false, false, false, false, false, false, false] (by kernel_rfl) rfl rfl ⟨hx360_0, hx360_1, hx361_0, hx362_0⟩ (fun hHeld => ?_); refine with_tabW exegeteref03_Of.tab26 exegeteref03_Of.bits26 (fun HT_ HW_ => ?_)
               generalize wr.drew = w67 at HO_3 HO_4 HO_5 HO_6 HO_7 HO_11 HO_13 BK351 HB HL361_0 HR361_0 hx360_0 hx360_1 hx361_0 hx362_0 hHeld ⊢
               refine pure_ (i := 0) (N := some 99) (v := ?_) (a' := ?_) #[true, false, false, false, false, false, false, false, false, false, false, false, false, false, false] rfl rfl (any_of HT_.out (by kernel_rfl)) (fun _ _ _ h => h) (Or.inl ⟨by rfl, ?_⟩) ?_ ?_
               rotate_left
               · intro w'
                 go_simp
                 with_reducible rfl
               rotate_left
               · simp only [Act.put, qA, qB, qC, i64_w, i32_w]
                 rfl
               refine pure_ (i := 1) (N := some 100) (v := ?_) (a' := ?_) #[true, true, false, false, false, false, false, false, false, false, false, false, false, false, false] rfl rfl (any_of HT_.out (by kernel_rfl)) (fun _ _ _ h => h) (Or.inl ⟨by rfl, ?_⟩) ?_ ?_
               rotate_left
               · intro w'
                 go_simp
                 with_reducible rfl
               rotate_left
               · simp only [Act.put, qA, qB, qC, i64_w, i32_w]
                 rfl
               refine pure_ (i := 2) (N := some 101) (v := ?_) (a' := ?_) #[true, true, true, false, false, false, false, false, false, false, false, false, false, false, false] rfl rfl (any_of HT_.out (by kernel_rfl)) (fun _ _ _ h => h) (Or.inl ⟨by rfl, ?_⟩) ?_ ?_
               rotate_left
               · intro w'
                 go_simp
                 with_reducible rfl
               rotate_left
               · simp only [Act.put, qA, qB, qC, i64_w, i32_w]
                 rfl
               refine pure_ (i := 3) (N := some 102) (v := ?_) (a' := ?_) #[true, true, true, true, false, false, false, false, false, false, false, false, false, false, false] rfl rfl (any_of HT_.out (by kernel_rfl)) (fun _ _ _ h => h) (Or.inl ⟨by rfl, ?_⟩) ?_ ?_
               rotate_left
               · intro w'
                 go_simp
                 with_reducible rfl
               rotate_left
               · simp only [Act.put, qA, qB, qC, i64_w, i32_w]
                 rfl
               refine pure_ (i := 5) (N := some 104) (v := ?_) (a' := ?_) #[true, true, true, true, false, true, false, false, false, false, false, false, false, false, false] rfl rfl (any_of HT_.out (by kernel_rfl)) (fun _ _ _ h => h) (Or.inl ⟨by rfl, ?_⟩) ?_ ?_
               rotate_left
               · intro w'
                 go_simp
                 with_reducible rfl
               rotate_left
               · simp only [Act.put, qA, qB, qC, i64_w, i32_w]
                 rfl
               refine pure_ (i := 6) (N := some 105) (v := ?_) (a' := ?_) #[true, true, true, true, false, true, true, false, false, false, false, false, false, false, false] rfl rfl (any_of HT_.out (by kernel_rfl)) (fun _ _ _ h => h) (Or.inl ⟨by rfl, ?_⟩) ?_ ?_
               rotate_left
               · intro w'
                 go_simp
                 with_reducible rfl
               rotate_left
               · simp only [Act.put, qA, qB, qC, i64_w, i32_w]
                 rfl
               refine pure_ (i := 7) (N := some 106) (v := ?_) (a' := ?_) #[true, true, true, true, false, true, true, true, false, false, false, false, false, false, false] rfl rfl (any_of HT_.out (by kernel_rfl)) (fun _ _ _ h => h) (Or.inl ⟨by rfl, ?_⟩) ?_ ?_
               rotate_left
               · intro w'
                 go_simp
                 with_reducible rfl
               rotate_left
               · simp only [Act.put, qA, qB, qC, i64_w, i32_w]
                 rfl
               refine pure_ (i := 9) (N := some 108) (v := ?_) (a' := ?_) #[true, true, true, true, false, true, true, true, false, true, false, false, false, false, false] rfl rfl (any_of HT_.out (by kernel_rfl)) (fun _ _ _ h => h) (Or.inl ⟨by rfl, ?_⟩) ?_ ?_
               rotate_left
               · intro w'
                 go_simp
                 with_reducible rfl
               rotate_left
               · simp only [Act.put, qA, qB, qC, i64_w, i32_w]
                 rfl
               refine take_ (i := 4) (N := some 103) (v := ?_) (a' := ?_) #[true, true, true, true, true, true, true, true, false, true, false, false, false, false, false] rfl rfl (take_ofW HT_.out HW_.out (by kernel_rfl)) (fun _ _ _ h => h) (Or.inl ⟨by rfl, ?_⟩) hHeld ?_ ?_
               rotate_left
               · rintro w' ⟨s0, s1, s2, s3⟩
                 go_simp
                 with_reducible rfl
               rotate_left
               · simp only [Act.put, qA, qB, qC, i64_w, i32_w]
                 rfl
               refine take_ (i := 8) (N := some 107) (v := ?_) (a' := ?_) #[true, true, true, true, true, true, true, true, true, true, false, false, false, false, false] rfl rfl (take_ofW HT_.out HW_.out (by kernel_rfl)) (fun _ _ _ h => h) (Or.inl ⟨by rfl, ?_⟩) hHeld ?_ ?_
               rotate_left
               · rintro w' ⟨s0, s1, s2, s3⟩
                 go_simp
                 with_reducible rfl
               rotate_left
               · simp only [Act.put, qA, qB, qC, i64_w, i32_w]
                 rfl
               refine pure_ (i := 10) (N := some 109) (v := ?_) (a' := ?_) #[true, true, true, true, true, true, true, true, true, true, true, false, false, false, false] rfl rfl (any_of HT_.out (by kernel_rfl)) (fun _ _ _ h => h) (Or.inl ⟨by rfl, ?_⟩) ?_ ?_
               rotate_left
               · intro w'
                 go_simp
                 with_reducible rfl
               rotate_left
               · simp only [Act.put, qA, qB, qC, i64_w, i32_w]
                 rfl
               refine take_ (i := 11) (N := some 110) (v := ?_) (a' := ?_) #[true, true, true, true, true, true, true, true, true, true, true, true, false, false, false] rfl rfl (take_ofW HT_.out HW_.out (by kernel_rfl)) (fun _ _ _ h => h) (Or.inl ⟨by rfl, ?_⟩) hHeld ?_ ?_
               rotate_left
               · rintro w' ⟨s0, s1, s2, s3⟩
                 go_simp
                 with_reducible rfl
               rotate_left
               · simp only [Act.put, qA, qB, qC, i64_w, i32_w]
                 rfl
               refine one_ (i := 12) (N := some 111) #[true, true, true, true, true, true, true, true, true, true, true, true, true, false, false] rfl rfl (one_of HT_.out (by kernel_rfl)) (by decide) (fun K hK => ?_)
               refine goes_ Try.func68 (by kernel_rfl) rfl #[.agg #[.int .i64 ((rd_T35 x11_5 x14_6).f0), .int .i64 ((rd_T35 x11_5 x14_6).f1)], .int .i64 (rd (rd_L7 y343 x9_2) x12_5)] (by rfl) rfl rfl (by (try simp only [List.map_toArray, List.map_cons, List.map_nil]); first | done | rfl | (simp only [List.length_drop, List.length_take]; rfl)) ?_
               with_reducible refine (exegeteref03_split.calls k6 ((rd_T35 x11_5 x14_6).f0) ((rd_T35 x11_5 x14_6).f1) (rd (rd_L7 y343 x9_2) x12_5) t363 _ A64.out).mono ?_
               rintro e w68 ⟨v364, rfl, ho0, hb⟩
               have HS0_ := (hb.cell (World.block_lt_of_cell? _ _ (hHeld.1))).trans (hHeld.1)
               have HS1_ := (hb.cell (World.block_lt_of_cell? _ _ (hHeld.2.1))).trans (hHeld.2.1)
               have HS2_ := (hb.cell (World.block_lt_of_cell? _ _ (hHeld.2.2.1))).trans (hHeld.2.2.1)
               have HS3_ := (hb.cell (World.block_lt_of_cell? _ _ (hHeld.2.2.2))).trans (hHeld.2.2.2)
               refine ⟨_, rfl, ?_⟩
               have n0_ := Aside0.mk (Kd.N_elder' (nU HO_3.out) (Kd.R_base ho0) hb)
               have n1_ := Aside0.mk (Kd.R_below (rU HO_4.out) hb)
               have n2_ := Aside0.mk (Kd.R_below (rU HO_5.out) hb)
               have n3_ := Aside0.mk (Kd.N_elder' (nU HO_6.out) (Kd.R_base ho0) hb)
               have n4_ := Aside0.mk (Kd.R_elder' (rU HO_7.out) (Kd.R_base ho0) hb)
               have n5_ := Aside0.mk (Kd.R_elder' (rU HO_11.out) (Kd.R_base ho0) hb)
               have n6_ := Aside0.mk (Kd.R_elder' (rU HO_13.out) (Kd.R_base ho0) hb)
               have n7_ := Aside0.mk (Kd.V_elder' (by (with_reducible repeat (first | apply Kd.V_alloc | apply Kd.V_drewN | apply Kd.V_drew)); exact HL361_0.out) (Kd.R_base ho0) hb)
               have n8_ := Aside0.mk (Kd.R_lower (Kd.R_newB (Kd.R_new' (Kd.R_new' (Kd.R_new' (Kd.R_newM (M := fun k_ => (w.heap.size ≤ k_)) ho0 (below_size (wV HB.out GE351.out)) (fun k_ h_ => h_)) (Kd.R_lt (rU HO_7.out))) (Kd.R_lt (rU HO_11.out))) (Kd.R_lt (rU HO_13.out))) (g := gb351) (o := .cells #[.int .i64 x352000_31, .int .i64 x352001_43] 35 (0, 0)) (bU BK351.out)) (below_size (wV HB.out GE351.out)))
               have n9_ := Aside0.mk (blk_below (g := gb351) (o := .cells #[.int .i64 x352000_31, .int .i64 x352001_43] 35 (0, 0)) (bU BK351.out) hb)
               have n10_ := Aside0.mk (Kd.C_below (by repeat (first | (with_reducible exact HR361_0.out) | (with_reducible refine Kd.C_alloc ?_ _) | (with_reducible refine Kd.C_drewN ?_ _) | (with_reducible refine Kd.C_drew ?_) | exact HR361_0.out)) hb)
               have n11_ := Aside0.mk (below_step (wV HB.out GE351.out) hb)
               clear HO_3 HO_4 HO_5 HO_6 HO_7 HO_11 HO_13 HL361_0 BK351 HR361_0 HB; have HO_3 := n0_; have HO_4 := n1_; have HO_5 := n2_; have HO_6 := n3_; have HO_7 := n4_; have HO_11 := n5_; have HO_13 := n6_; have HL361_0 := n7_; have HO365 := n8_; have BK351 := n9_; have HR361_0 := n10_; have HB := n11_; clear n0_ n1_ n2_ n3_ n4_ n5_ n6_ n7_ n8_ n9_ n10_ n11_; (try clear hb); (try clear hb2); (try clear hk); (try clear hi)
               (try clear ho0)
               obtain ⟨Ao70, co70, eo70⟩ := Kd.R_slice HO365.out
               (first | subst eo70 | (injection eo70 with f1_ f2_ f3_; have f4_ := f1_.symm; have f5_ := f3_.symm; clear f1_ f2_ f3_; subst f4_; subst f5_))
               refine hK.out _ _ ⟨HS0_, HS1_, HS2_, HS3_⟩ (fun hHeld => ?_)
               clear hK K
               refine norm_ (a' := ?_) ?_ ?_
               rotate_left
               · show Act.put _ (some 111) _ = _
                 simp only [Act.put, qA, qB, qC, i64_w, i32_w]
                 rfl
               refine last_ (i := 13) (N := some 112) #[true, true, true, true, true, true, true, true, true, true, true, true, true, true, false] rfl rfl (one_of HT_.out (by kernel_rfl)) (by decide) (fun K hK => ?_)
               refine Kd.R_append_rows_step k35 (w0 := w) w.heap.size (by rfl) (.tmp 99) (.tmp 111) 22 35 (.agg #[(.int .i64 0), (.int .i64 0)]) 16 rfl Try.underlying22 info35 rfl (by decide) (by omega) u13 x13_6 t363 _ _ _ (fun k_ => (w.heap.size ≤ k_) ∧ some k_ ≠ (.slice (some ad349) t346.length co26 : Value).ownBlock ∧ some k_ ≠ (.slice (some ad360) x11_5.length co66 : Value).ownBlock ∧ some k_ ≠ (.slice Ao70 t363.length co70 : Value).ownBlock ∧ k_ ≠ gb351) (fun _ => False) rfl rfl ?aO ?aR (fun _ _ h => h) (fun _ h => h.elim) ?aF ?aB ?aS ?aL ?_
               (case aR => exact cU (Kd.R_reads' HO365.out).2.2)
               (case aB => exact (wV HB.out GE351.out))
               (case aF => exact (fun k_ hk => ⟨(Nat.le_trans (below_size (wV HB.out GE351.out)) hk), Kd.fresh' (Kd.R_lt (rU HO_7.out)) k_ hk, Kd.fresh' (Kd.R_lt (rU HO_11.out)) k_ hk, Kd.fresh' (Kd.R_lt (rU HO365.out)) k_ hk, Kd.freshB (g := gb351) (o := .cells #[.int .i64 x352000_31, .int .i64 x352001_43] 35 (0, 0)) (bU BK351.out) k_ hk⟩))
               (case aO => exact (by (with_reducible repeat (first | apply Kd.R_alloc | apply Kd.R_drewN | apply Kd.R_drew)); exact Kd.R_mono HO_13.out (fun _ hk => ⟨hk.1.1, ⟨hk.1.2.1, ⟨hk.1.2.2.1, ⟨hk.2, hk.1.2.2.2⟩⟩⟩⟩)))
               (case aS => exact (below_size (wV HB.out GE351.out)))
               (case aL => have := LMc65.out; omega)
               intro v367 w69 ho hb hg hat
               rw [← Ny366.out] at ho
               have n0_ := Aside0.mk (Kd.N_afterv (ok := (fun k_ => (w.heap.size ≤ k_) ∧ some k_ ≠ (.slice (some ad352) y322.length co39 : Value).ownBlock ∧ some k_ ≠ (.slice (some ad354) y325.length co46 : Value).ownBlock ∧ some k_ ≠ (.slice (some ad359) y343.length co57 : Value).ownBlock ∧ some k_ ≠ (.slice (some ad349) t346.length co26 : Value).ownBlock ∧ some k_ ≠ (.slice (some ad360) x11_5.length co66 : Value).ownBlock ∧ some k_ ≠ (.slice Ao70 t363.length co70 : Value).ownBlock ∧ k_ ≠ gb351)) (by (with_reducible repeat (first | apply Kd.N_alloc | apply Kd.N_drewN | apply Kd.N_drew)); exact Kd.N_mono HO_3.out (fun _ hk => ⟨⟨hk.1.1, ⟨hk.1.2.1, ⟨hk.1.2.2.1, ⟨hk.1.2.2.2.1, ⟨hk.1.2.2.2.2.1, ⟨hk.1.2.2.2.2.2.1, ⟨hk.2, hk.1.2.2.2.2.2.2.2⟩⟩⟩⟩⟩⟩⟩, hk.1.2.2.2.2.2.2.1⟩)) hg hat)
               have n1_ := Aside0.mk (Kd.R_over' (rU HO_4.out) (Kd.R_typed (rU HO_13.out)) (by decide) hg)
               have n2_ := Aside0.mk (Kd.R_over' (rU HO_5.out) (Kd.R_typed (rU HO_13.out)) (by decide) hg)
               have n3_ := Aside0.mk (Kd.N_afterv (ok := (fun k_ => (w.heap.size ≤ k_) ∧ some k_ ≠ (u3 : Value).ownBlock ∧ some k_ ≠ (.slice (some ad352) y322.length co39 : Value).ownBlock ∧ some k_ ≠ (.slice (some ad354) y325.length co46 : Value).ownBlock ∧ some k_ ≠ (.slice (some ad349) t346.length co26 : Value).ownBlock ∧ some k_ ≠ (.slice (some ad360) x11_5.length co66 : Value).ownBlock ∧ some k_ ≠ (.slice Ao70 t363.length co70 : Value).ownBlock ∧ k_ ≠ gb351)) (by (with_reducible repeat (first | apply Kd.N_alloc | apply Kd.N_drewN | apply Kd.N_drew)); exact Kd.N_mono HO_6.out (fun _ hk => ⟨⟨hk.1.1, ⟨hk.1.2.1, ⟨hk.1.2.2.1, ⟨hk.1.2.2.2.1, ⟨hk.1.2.2.2.2.1, ⟨hk.1.2.2.2.2.2.1, ⟨hk.2, hk.1.2.2.2.2.2.2.2⟩⟩⟩⟩⟩⟩⟩, hk.1.2.2.2.2.2.2.1⟩)) hg hat)
               have n4_ := Aside0.mk (Kd.R_after (ok := (fun k_ => (w.heap.size ≤ k_) ∧ some k_ ≠ (.slice (some ad360) x11_5.length co66 : Value).ownBlock ∧ some k_ ≠ (.slice Ao70 t363.length co70 : Value).ownBlock ∧ k_ ≠ gb351)) (by (with_reducible repeat (first | apply Kd.R_alloc | apply Kd.R_drewN | apply Kd.R_drew)); exact Kd.R_mono HO_7.out (fun _ hk => ⟨⟨hk.1.1, ⟨hk.1.2.1, ⟨hk.2, hk.1.2.2.2⟩⟩⟩, hk.1.2.2.1⟩)) hg hat)
               have n5_ := Aside0.mk (Kd.R_after (ok := (fun k_ => (w.heap.size ≤ k_) ∧ some k_ ≠ (.slice (some ad349) t346.length co26 : Value).ownBlock ∧ some k_ ≠ (.slice Ao70 t363.length co70 : Value).ownBlock ∧ k_ ≠ gb351)) (by (with_reducible repeat (first | apply Kd.R_alloc | apply Kd.R_drewN | apply Kd.R_drew)); exact Kd.R_mono HO_11.out (fun _ hk => ⟨⟨hk.1.1, ⟨hk.1.2.1, ⟨hk.2, hk.1.2.2.2⟩⟩⟩, hk.1.2.2.1⟩)) hg hat)
               have n6_ := Aside0.mk (blk_grown (g := gb351) (o := .cells #[.int .i64 x352000_31, .int .i64 x352001_43] 35 (0, 0)) (bU BK351.out) hg (Kd.R_away HO_13.out (fun _ hk => hk.1.2.2.2)))
               have n7_ := Aside0.mk (Kd.V_afterv (ok := (fun k_ => (w.heap.size ≤ k_) ∧ some k_ ≠ (u3 : Value).ownBlock ∧ some k_ ≠ (.slice (some ad352) y322.length co39 : Value).ownBlock ∧ some k_ ≠ (.slice (some ad354) y325.length co46 : Value).ownBlock ∧ some k_ ≠ (.slice (some ad359) y343.length co57 : Value).ownBlock ∧ some k_ ≠ (.slice (some ad349) t346.length co26 : Value).ownBlock ∧ some k_ ≠ (.slice (some ad360) x11_5.length co66 : Value).ownBlock ∧ some k_ ≠ (.slice Ao70 t363.length co70 : Value).ownBlock ∧ k_ ≠ gb351)) (by (with_reducible repeat (first | apply Kd.V_alloc | apply Kd.V_drewN | apply Kd.V_drew)); exact Kd.V_mono HL361_0.out (fun _ hk => ⟨⟨hk.1.1.1, ⟨hk.1.1.2.1, ⟨hk.1.1.2.2.1, ⟨hk.1.1.2.2.2.1, ⟨hk.1.2, ⟨hk.1.1.2.2.2.2.1, ⟨hk.1.1.2.2.2.2.2.1, ⟨hk.2, hk.1.1.2.2.2.2.2.2.2⟩⟩⟩⟩⟩⟩⟩⟩, hk.1.1.2.2.2.2.2.2.1⟩)) hg hat)
               have n8_ := Aside0.mk (Kd.R_after (ok := (fun k_ => (w.heap.size ≤ k_) ∧ some k_ ≠ (.slice (some ad349) t346.length co26 : Value).ownBlock ∧ some k_ ≠ (.slice (some ad360) x11_5.length co66 : Value).ownBlock ∧ k_ ≠ gb351)) (by (with_reducible repeat (first | apply Kd.R_alloc | apply Kd.R_drewN | apply Kd.R_drew)); exact Kd.R_mono HO365.out (fun _ hk => ⟨⟨hk.1.1.1.1.1, ⟨hk.1.1.1.2, ⟨hk.1.1.2, hk.2⟩⟩⟩, hk.1.2⟩)) hg hat)
               have n9_ := Aside0.mk (hb)
               have n10_ := Aside0.mk (ho)
               clear HO_3 HO_4 HO_5 HO_6 HO_7 HO_11 BK351 HL361_0 HO365 HB HO_13; have HO_3 := n0_; have HO_4 := n1_; have HO_5 := n2_; have HO_6 := n3_; have HO_7 := n4_; have HO_11 := n5_; have BK351 := n6_; have HL361_0 := n7_; have HO365 := n8_; have HB := n9_; have HO368 := n10_; clear n0_ n1_ n2_ n3_ n4_ n5_ n6_ n7_ n8_ n9_ n10_ ho hb hg hat
               refine hK.out _ _ ?_
               clear hK K
               refine norm_ (a' := ?_) ?_ ?_
               rotate_left
               · show Act.put _ (some 112) _ = _
                 simp only [Act.put, qA, qB, qC, i64_w, i32_w]
                 rfl
               refine pure_ (i := 14) (N := some 13) (v := ?_) (a' := ?_) #[true, true, true, true, true, true, true, true, true, true, true, true, true, true, true] rfl rfl (any_of HT_.out (by kernel_rfl)) (fun _ _ _ h => h) (Or.inl ⟨by rfl, ?_⟩) ?_ ?_
               rotate_left
               · intro w'
                 go_simp
                 with_reducible rfl
               rotate_left
               · simp only [Act.put, qA, qB, qC, i64_w, i32_w]
                 rfl
               refine done_ (done_of HT_.out (by kernel_rfl)) ?_
               try go_wp2
               go_roundg k6
               case measure => have := HK1.out; have := HK2.out; have := HJ31.out; have := HJ43.out; have := HK5.out; have := HK6.out; omega
               case rel => exact ⟨(y366), (wrap64 (x14_6 + 1)), (by first | rfl | (simp; done) | (simp [*]; done) | (simp [*, bne]; done)), H', ⟨by have := HK1.out; have := HK2.out; have := HJ31.out; have := HJ43.out; have := HK5.out; have := HK6.out; omega⟩, ⟨by (with_reducible repeat (first | apply Kd.N_alloc | apply Kd.N_drewN | apply Kd.N_drew)); exact Kd.N_mono HO_3.out (fun _ hk => ⟨hk.1.1, ⟨hk.1.2.1, ⟨hk.1.2.2.1, ⟨hk.1.2.2.2.1, ⟨hk.1.2.2.2.2.1, ⟨hk.1.2.2.2.2.2.1, ⟨hk.2, hk.1.2.2.2.2.2.2.2⟩⟩⟩⟩⟩⟩⟩)⟩, ⟨rU HO_4.out⟩, ⟨rU HO_5.out⟩, ⟨by (with_reducible repeat (first | apply Kd.N_alloc | apply Kd.N_drewN | apply Kd.N_drew)); exact Kd.N_mono HO_6.out (fun _ hk => ⟨hk.1.1, ⟨hk.1.2.1, ⟨hk.1.2.2.1, ⟨hk.1.2.2.2.1, ⟨hk.1.2.2.2.2.1, ⟨hk.1.2.2.2.2.2.1, ⟨hk.2, hk.1.2.2.2.2.2.2.2⟩⟩⟩⟩⟩⟩⟩)⟩, ⟨by (with_reducible repeat (first | apply Kd.R_alloc | apply Kd.R_drewN | apply Kd.R_drew)); exact Kd.R_mono HO_7.out (fun _ hk => ⟨hk.1.1, ⟨hk.1.2.1, ⟨hk.2, hk.1.2.2.2⟩⟩⟩)⟩, ⟨by (with_reducible repeat (first | apply Kd.R_alloc | apply Kd.R_drewN | apply Kd.R_drew)); exact Kd.R_mono HO_11.out (fun _ hk => ⟨hk.1.1, ⟨hk.1.2.1, ⟨hk.2, hk.1.2.2.2⟩⟩⟩)⟩, ⟨by (with_reducible repeat (first | apply Kd.R_alloc | apply Kd.R_drewN | apply Kd.R_drew)); exact Kd.R_mono HO368.out (fun _ hk => ⟨hk.1, ⟨hk.2.1, ⟨hk.2.2.1, hk.2.2.2.2⟩⟩⟩)⟩, ⟨bU BK351.out⟩, ⟨wV HB.out GE351.out⟩⟩
           rw [if_neg c56] at H
           have c56b0 : decide (x12_5 < ((rd_L7 y343 x9_2).length : Int)) = false := decide_eq_false c56
           clear c56; have H' := Aside0.mk H; clear H
           obtain ⟨Ao72, co72, eo72⟩ := Kd.N_slice HO_6.out
           subst eo72
           have p359 : 0 ≤ (x9_2 : Int) := of_decide_eq_true (by first | (with_reducible assumption) | assumption)
           have q359 : x9_2 < (y343.length : Int) := of_decide_eq_true (by first | (with_reducible assumption) | assumption)
           obtain ⟨ad359, A359_0, c359_0, e359, hx359_0, hl359_0, hi359_0⟩ := at_L7 (Kd.N_reads' HO_6.out).2.2 x9_2 p359 q359
           cases e359
           obtain ⟨ce359, hce359, hMe359, hcc359⟩ := Kd.N_get HO_6.out [] x9_2 p359 (by first | exact q359 | exact of_decide_eq_true (by first | (with_reducible assumption) | assumption) | (have e_ := (Kd.N_reads' HO_6.out).1; omega))
           obtain ⟨ua359_0, uc359_0, rfl, ul359_0, ge359_0⟩ := Kd.FK_slice_open hMe359
           have hv359_0 := hcc359 0 _ rfl
           rw [Nat.add_zero, show ((Kd.slice 3 (Kd.int .i64))).sz = 1 from rfl, Nat.mul_one] at hv359_0
           replace hv359_0 := Option.some.inj (hv359_0.symm.trans hx359_0)
           injection hv359_0 with hva_ hvn_ hvc_
           rw [hva_] at ge359_0
           rw [hvc_] at ul359_0
           have HL359_0 := Aside0.mk (show Kd.V (Kd.int .i64) 3 _ w.heap.size _ _ (rd_L7 y343 x9_2) from Kd.V_mk ul359_0 ge359_0)
           clear hva_ hvn_ hvc_ ge359_0 ul359_0 hcc359 hce359
           have HR359_0 := Aside0.mk hi359_0
           have HC359_0 := Aside0.mk hl359_0
           clear hi359_0 hl359_0; replace p359 := eq_true p359; replace q359 := eq_true q359
           go_wp2
           go_loopg [3, 15] k5 (fun kq v3 v15 w' => ∃ (x3_6 : List (List (S35))) (x15_6 : Int), v15 = .int .i64 x15_6 ∧ Aside0 (exegeteref03_Of.l4 kq x3_6 y322 y325 y343 t346 x8_1 x9_2 x11_5 x15_6 = some r) ∧ Aside0 (kq ≤ k5) ∧ Aside0 (Kd.N (Kd.slice 35 k35) 22 w' w.heap.size (fun k_ => (w.heap.size ≤ k_) ∧ some k_ ≠ ((.slice (some ad352) y322.length co39) : Value).ownBlock ∧ some k_ ≠ ((.slice (some ad354) y325.length co46) : Value).ownBlock ∧ some k_ ≠ ((.slice (some ad359) y343.length co72) : Value).ownBlock ∧ some k_ ≠ ((.slice (some ad349) t346.length co26) : Value).ownBlock ∧ some k_ ≠ (u11 : Value).ownBlock ∧ k_ ≠ gb351) v3 x3_6) ∧ Aside0 (Kd.R (Kd.int .i64) 3 w' w.heap.size (fun k_ => (w.heap.size ≤ k_) ∧ some k_ ≠ ((.slice (some ad354) y325.length co46) : Value).ownBlock) (.slice (some ad352) y322.length co39) y322) ∧ Aside0 (Kd.R (Kd.int .i64) 3 w' w.heap.size (fun k_ => (w.heap.size ≤ k_) ∧ some k_ ≠ ((.slice (some ad352) y322.length co39) : Value).ownBlock) (.slice (some ad354) y325.length co46) y325) ∧ Aside0 (Kd.N (Kd.slice 3 (Kd.int .i64)) 48 w' w.heap.size (fun k_ => (w.heap.size ≤ k_) ∧ some k_ ≠ (v3 : Value).ownBlock ∧ some k_ ≠ ((.slice (some ad352) y322.length co39) : Value).ownBlock ∧ some k_ ≠ ((.slice (some ad354) y325.length co46) : Value).ownBlock ∧ some k_ ≠ ((.slice (some ad349) t346.length co26) : Value).ownBlock ∧ some k_ ≠ (u11 : Value).ownBlock ∧ k_ ≠ gb351) (.slice (some ad359) y343.length co72) y343) ∧ Aside0 (Kd.R k35 35 w' w.heap.size (fun k_ => (w.heap.size ≤ k_) ∧ some k_ ≠ (u11 : Value).ownBlock ∧ k_ ≠ gb351) (.slice (some ad349) t346.length co26) t346) ∧ Aside0 (Kd.R k35 35 w' w.heap.size (fun k_ => (w.heap.size ≤ k_) ∧ some k_ ≠ ((.slice (some ad349) t346.length co26) : Value).ownBlock ∧ k_ ≠ gb351) u11 x11_5) ∧ Aside0 (w'.heap[gb351]? = some (.cells #[.int .i64 x352000_31, .int .i64 x352001_43] 35 (0, 0))) ∧ Aside0 (Below w.heap.size w w'))
           case atStart => exact ⟨(x3_2), (0), (by first | rfl | (simp; done) | (simp [*]; done) | (simp [*, bne]; done)), H', ⟨Nat.le_refl _⟩, ⟨nU HO_3.out⟩, ⟨rU HO_4.out⟩, ⟨rU HO_5.out⟩, ⟨nU HO_6.out⟩, ⟨rU HO_7.out⟩, ⟨rU HO_11.out⟩, ⟨bU BK351.out⟩, ⟨wV HB.out GE351.out⟩⟩
           case round =>
            clear H'; (try clear c2); (try clear p2); (try clear c3); (try clear p3); (try clear q3); (try clear hx3); (try clear c4); (try clear c5); (try clear c6); (try clear p6); (try clear c25); (try clear c25b0); (try clear c27); (try clear c27b0); (try clear c28); (try clear c28b0); (try clear c29); (try clear c29b0); (try clear c30); (try clear c30b0); (try clear c31); (try clear c31b0); (try clear p34)
            (try clear q34); (try clear hx34); (try clear c35); (try clear p35); (try clear q35); (try clear hx35); (try clear c36); (try clear p36); (try clear q36); (try clear hx36); (try clear c40); (try clear c40b0); (try clear c42); (try clear c42b0); (try clear c43); (try clear c43b0); (try clear c47); (try clear c47b0); (try clear c49); (try clear c49b0); (try clear c54); (try clear c54b0); (try clear c55)
            (try clear c55b0); (try clear c56); (try clear c56b0); (try clear c58); (try clear c58b0); (try clear c59); (try clear c59b0); (try clear c60); (try clear c60b0); (try clear c61); (try clear c61b0); (try clear c62); (try clear c62b0); (try clear c63); (try clear c63b0); (try clear p64); (try clear c65); (try clear c68); (try clear hcz41_0); (try clear hcz41_1); (try clear hcz48_0); (try clear hcz48_1)
            (try clear hcz50_0); (try clear hcz50_1); (try clear hcz51_0); (try clear hcz51_1); (try clear hfz41_0); (try clear hfz41_1); (try clear hfz48_0); (try clear hfz48_1); (try clear hfz50_0); (try clear hfz50_1); (try clear hfz51_0); (try clear hfz51_1); (try clear hx349_0); (try clear hx349_1); (try clear hx350_0); (try clear hx350_1); (try clear hx352_0); (try clear hx353_0); (try clear hx354_0); (try clear hx355_0)
            (try clear hx359_0); (try clear hx360_0); (try clear hx360_1); (try clear hx361_0); (try clear hx362_0); (try clear p2); (try clear p3); (try clear p34); (try clear p349); (try clear p35); (try clear p350); (try clear p352); (try clear p353); (try clear p354); (try clear p355); (try clear p359); (try clear p360); (try clear p361); (try clear p362); (try clear p6); (try clear q3); (try clear q34); (try clear q349)
            (try clear q35); (try clear q350); (try clear q352); (try clear q353); (try clear q354); (try clear q355); (try clear q359); (try clear q360); (try clear q361); (try clear q362)
            obtain ⟨x3_6, x15_6, rfl, HA, HK6, HO_3, HO_4, HO_5, HO_6, HO_7, HO_11, BK351, HB⟩ := hrel
            cases gk with
            | zero => exact absurd HA.out (by simp [exegeteref03_Of.l4])
            | succ k6 =>
             have H := HA.out
             clear HA
             simp only [exegeteref03_Of.l4] at H
             by_cases c73 : x15_6 < (x11_5.length : Int)
             rotate_left
             · rw [if_neg c73] at H
               have c73b0 : decide (x15_6 < (x11_5.length : Int)) = false := decide_eq_false c73
               clear c73; have H' := Aside0.mk H; clear H
               obtain ⟨Ao92, co92, eo92⟩ := Kd.R_slice HO_11.out
               subst eo92
               go_wp2
               go_roundg k6
               case measure => have := HK1.out; have := HK2.out; have := HJ31.out; have := HJ43.out; have := HK5.out; have := HK6.out; omega
               case rel => exact ⟨(x3_6), (wrap64 (x9_2 + 1)), (by first | rfl | (simp; done) | (simp [*]; done) | (simp [*, bne]; done)), H', ⟨by have := HK1.out; have := HK2.out; have := HJ31.out; have := HJ43.out; have := HK5.out; have := HK6.out; omega⟩, ⟨by (with_reducible repeat (first | apply Kd.N_alloc | apply Kd.N_drewN | apply Kd.N_drew)); exact Kd.N_mono HO_3.out (fun _ hk => ⟨hk.1, ⟨hk.2.1, ⟨hk.2.2.1, ⟨hk.2.2.2.1, hk.2.2.2.2.1⟩⟩⟩⟩)⟩, ⟨rU HO_4.out⟩, ⟨rU HO_5.out⟩, ⟨by (with_reducible repeat (first | apply Kd.N_alloc | apply Kd.N_drewN | apply Kd.N_drew)); exact Kd.N_mono HO_6.out (fun _ hk => ⟨hk.1, ⟨hk.2.1, ⟨hk.2.2.1, ⟨hk.2.2.2.1, hk.2.2.2.2.1⟩⟩⟩⟩)⟩, ⟨by (with_reducible repeat (first | apply Kd.R_alloc | apply Kd.R_drewN | apply Kd.R_drew)); exact Kd.R_mono HO_7.out (fun _ hk => hk.1)⟩, ⟨wV HB.out GE351.out⟩⟩
             rw [if_pos c73] at H
             have c73b0 : decide (x15_6 < (x11_5.length : Int)) = true := decide_eq_true c73
             clear c73
             by_cases c74 : 0 ≤ x15_6
             rotate_left
             · rw [if_neg c74] at H
               exact absurd H (by simp)
             rw [if_pos c74] at H
             have c74b0 : decide (0 ≤ x15_6) = true := decide_eq_true c74
             clear c74
             replace H := Option.bind_eq_some_iff.mp H
             obtain ⟨⟨t370, t371⟩, A750, H⟩ := H
             replace H : ((exegeteref01_Put.f ((rd_T35 x11_5 x15_6).f1)).bind fun bt375 => (exegeteref03_Of.l5 k6 x3_6 y322 y325 y343 t346 x8_1 x9_2 x11_5 x15_6 t370 bt375.1 ([] : List (S35)) 0)) = some r := H
             have A75 := Aside0.mk A750
             clear A750
             replace H := Option.bind_eq_some_iff.mp H
             obtain ⟨⟨t375, t376⟩, A760, H⟩ := H
             replace H : (exegeteref03_Of.l5 k6 x3_6 y322 y325 y343 t346 x8_1 x9_2 x11_5 x15_6 t370 t375 ([] : List (S35)) 0) = some r := H
             have A76 := Aside0.mk A760
             clear A760; have H' := Aside0.mk H; clear H
             obtain ⟨Ao77, co77, eo77⟩ := Kd.R_slice HO_11.out
             subst eo77
             have p369 : 0 ≤ (x15_6 : Int) := of_decide_eq_true (by first | (with_reducible assumption) | assumption)
             have q369 : x15_6 < (x11_5.length : Int) := of_decide_eq_true (by first | (with_reducible assumption) | assumption)
             obtain ⟨ad369, e369, hx369_0, hx369_1⟩ := at_T35 (Kd.R_reads' HO_11.out).2.2 x15_6 p369 q369
             cases e369; replace p369 := eq_true p369; replace q369 := eq_true q369
             go_wp2_with (first | ((with_reducible refine gate_callee (f := 65) rfl ?_); refine goesL_ (some 126) rfl rfl Try.func65 (by kernel_rfl) rfl #[.int .i64 ((rd_T35 x11_5 x15_6).f0)] rfl (by (try simp only [List.map_toArray, List.map_cons, List.map_nil]); first | done | rfl | (simp only [List.length_drop, List.length_take]; rfl)) ?_; (with_reducible refine (exegeteref01_Put.calls ((rd_T35 x11_5 x15_6).f0) t370 t371 _ A75.out).mono ?_); rintro e w78 ⟨v372, rfl, ho0, hb⟩; refine ⟨_, rfl, ?_⟩; have n0_ := Aside0.mk (Kd.N_elder' (nU HO_3.out) (Kd.R_base ho0) hb); have n1_ := Aside0.mk (Kd.R_below (rU HO_4.out) hb); have n2_ := Aside0.mk (Kd.R_below (rU HO_5.out) hb); have n3_ := Aside0.mk (Kd.N_elder' (nU HO_6.out) (Kd.R_base ho0) hb); have n4_ := Aside0.mk (Kd.R_below (rU HO_7.out) hb); have n5_ := Aside0.mk (Kd.R_below (rU HO_11.out) hb); have n6_ := Aside0.mk (Kd.R_lower (Kd.R_newM (M := fun k_ => (w.heap.size ≤ k_)) ho0 (below_size (wV HB.out GE351.out)) (fun k_ h_ => h_)) (below_size (wV HB.out GE351.out))); have n7_ := Aside0.mk (blk_below (g := gb351) (o := .cells #[.int .i64 x352000_31, .int .i64 x352001_43] 35 (0, 0)) (bU BK351.out) hb); have n8_ := Aside0.mk (below_step (wV HB.out GE351.out) hb); clear HO_3; clear HO_4; clear HO_5; clear HO_6; clear HO_7; clear HO_11; clear BK351; clear HB; have HO_3 := n0_; have HO_4 := n1_; have HO_5 := n2_; have HO_6 := n3_; have HO_7 := n4_; have HO_11 := n5_; have HO373 := n6_; have BK351 := n7_; have HB := n8_; clear n0_ n1_ n2_ n3_ n4_ n5_ n6_ n7_ n8_; (try clear hb); (try clear hb2); (try clear hk); (try clear hi); (try clear ho0); have p374 : 0 ≤ (x15_6 : Int) := of_decide_eq_true (by first | (with_reducible assumption) | assumption); have q374 : x15_6 < (x11_5.length : Int) := of_decide_eq_true (by first | (with_reducible assumption) | assumption); obtain ⟨ad374, e374, hx374_0, hx374_1⟩ := at_T35 (Kd.R_reads' HO_11.out).2.2 x15_6 p374 q374; obtain rfl : ad369 = ad374 := (by injection e374); replace p374 := eq_true p374; replace q374 := eq_true q374) | ((with_reducible refine gate_callee (f := 65) rfl ?_); refine goesL_ (some 135) rfl rfl Try.func65 (by kernel_rfl) rfl #[.int .i64 ((rd_T35 x11_5 x15_6).f1)] rfl (by (try simp only [List.map_toArray, List.map_cons, List.map_nil]); first | done | rfl | (simp only [List.length_drop, List.length_take]; rfl)) ?_; (with_reducible refine (exegeteref01_Put.calls ((rd_T35 x11_5 x15_6).f1) t375 t376 _ A76.out).mono ?_); rintro e w79 ⟨v377, rfl, ho0, hb⟩; refine ⟨_, rfl, ?_⟩; have n0_ := Aside0.mk (Kd.N_elder' (nU HO_3.out) (Kd.R_base ho0) hb); have n1_ := Aside0.mk (Kd.R_below (rU HO_4.out) hb); have n2_ := Aside0.mk (Kd.R_below (rU HO_5.out) hb); have n3_ := Aside0.mk (Kd.N_elder' (nU HO_6.out) (Kd.R_base ho0) hb); have n4_ := Aside0.mk (Kd.R_below (rU HO_7.out) hb); have n5_ := Aside0.mk (Kd.R_below (rU HO_11.out) hb); have n6_ := Aside0.mk (Kd.R_elder' (rU HO373.out) (Kd.R_base ho0) hb); have n7_ := Aside0.mk (Kd.R_lower (Kd.R_new' (Kd.R_newM (M := fun k_ => (w.heap.size ≤ k_)) ho0 (below_size (wV HB.out GE351.out)) (fun k_ h_ => h_)) (Kd.R_lt (rU HO373.out))) (below_size (wV HB.out GE351.out))); have n8_ := Aside0.mk (blk_below (g := gb351) (o := .cells #[.int .i64 x352000_31, .int .i64 x352001_43] 35 (0, 0)) (bU BK351.out) hb); have n9_ := Aside0.mk (below_step (wV HB.out GE351.out) hb); clear HO_3; clear HO_4; clear HO_5; clear HO_6; clear HO_7; clear HO_11; clear HO373; clear BK351; clear HB; have HO_3 := n0_; have HO_4 := n1_; have HO_5 := n2_; have HO_6 := n3_; have HO_7 := n4_; have HO_11 := n5_; have HO373 := n6_; have HO378 := n7_; have BK351 := n8_; have HB := n9_; clear n0_ n1_ n2_ n3_ n4_ n5_ n6_ n7_ n8_ n9_; (try clear hb); (try clear hb2); (try clear hk); (try clear hi); (try clear ho0)))
             go_loopg [20, 21] k6 (fun kq v20 v21 w' => ∃ (x20_7 : List (S35)) (x21_7 : Int), v21 = .int .i64 x21_7 ∧ Aside0 (exegeteref03_Of.l5 kq x3_6 y322 y325 y343 t346 x8_1 x9_2 x11_5 x15_6 t370 t375 x20_7 x21_7 = some r) ∧ Aside0 (kq ≤ k6) ∧ Aside0 (Kd.N (Kd.slice 35 k35) 22 w' w.heap.size (fun k_ => (w.heap.size ≤ k_) ∧ some k_ ≠ ((.slice (some ad352) y322.length co39) : Value).ownBlock ∧ some k_ ≠ ((.slice (some ad354) y325.length co46) : Value).ownBlock ∧ some k_ ≠ ((.slice (some ad359) y343.length co72) : Value).ownBlock ∧ some k_ ≠ ((.slice (some ad349) t346.length co26) : Value).ownBlock ∧ some k_ ≠ ((.slice (some ad369) x11_5.length co77) : Value).ownBlock ∧ some k_ ≠ (v372 : Value).ownBlock ∧ some k_ ≠ (v377 : Value).ownBlock ∧ some k_ ≠ (v20 : Value).ownBlock ∧ k_ ≠ gb351) u3 x3_6) ∧ Aside0 (Kd.R (Kd.int .i64) 3 w' w.heap.size (fun k_ => (w.heap.size ≤ k_) ∧ some k_ ≠ ((.slice (some ad354) y325.length co46) : Value).ownBlock) (.slice (some ad352) y322.length co39) y322) ∧ Aside0 (Kd.R (Kd.int .i64) 3 w' w.heap.size (fun k_ => (w.heap.size ≤ k_) ∧ some k_ ≠ ((.slice (some ad352) y322.length co39) : Value).ownBlock) (.slice (some ad354) y325.length co46) y325) ∧ Aside0 (Kd.N (Kd.slice 3 (Kd.int .i64)) 48 w' w.heap.size (fun k_ => (w.heap.size ≤ k_) ∧ some k_ ≠ (u3 : Value).ownBlock ∧ some k_ ≠ ((.slice (some ad352) y322.length co39) : Value).ownBlock ∧ some k_ ≠ ((.slice (some ad354) y325.length co46) : Value).ownBlock ∧ some k_ ≠ ((.slice (some ad349) t346.length co26) : Value).ownBlock ∧ some k_ ≠ ((.slice (some ad369) x11_5.length co77) : Value).ownBlock ∧ some k_ ≠ (v372 : Value).ownBlock ∧ some k_ ≠ (v377 : Value).ownBlock ∧ some k_ ≠ (v20 : Value).ownBlock ∧ k_ ≠ gb351) (.slice (some ad359) y343.length co72) y343) ∧ Aside0 (Kd.R k35 35 w' w.heap.size (fun k_ => (w.heap.size ≤ k_) ∧ some k_ ≠ ((.slice (some ad369) x11_5.length co77) : Value).ownBlock ∧ some k_ ≠ (v20 : Value).ownBlock ∧ k_ ≠ gb351) (.slice (some ad349) t346.length co26) t346) ∧ Aside0 (Kd.R k35 35 w' w.heap.size (fun k_ => (w.heap.size ≤ k_) ∧ some k_ ≠ ((.slice (some ad349) t346.length co26) : Value).ownBlock ∧ some k_ ≠ (v20 : Value).ownBlock ∧ k_ ≠ gb351) (.slice (some ad369) x11_5.length co77) x11_5) ∧ Aside0 (Kd.R (Kd.int .u8) 5 w' w.heap.size (fun k_ => (w.heap.size ≤ k_) ∧ some k_ ≠ (v377 : Value).ownBlock) v372 t370) ∧ Aside0 (Kd.R (Kd.int .u8) 5 w' w.heap.size (fun k_ => (w.heap.size ≤ k_) ∧ some k_ ≠ (v372 : Value).ownBlock) v377 t375) ∧ Aside0 (Kd.R k35 35 w' w.heap.size (fun k_ => (w.heap.size ≤ k_) ∧ some k_ ≠ ((.slice (some ad349) t346.length co26) : Value).ownBlock ∧ some k_ ≠ ((.slice (some ad369) x11_5.length co77) : Value).ownBlock ∧ k_ ≠ gb351) v20 x20_7) ∧ Aside0 (w'.heap[gb351]? = some (.cells #[.int .i64 x352000_31, .int .i64 x352001_43] 35 (0, 0))) ∧ Aside0 (Below w.heap.size w w'))
             case atStart => exact ⟨(([] : List (S35))), (0), (by first | rfl | (simp; done) | (simp [*]; done) | (simp [*, bne]; done)), H', ⟨Nat.le_refl _⟩, ⟨by (with_reducible repeat (first | apply Kd.N_alloc | apply Kd.N_drewN | apply Kd.N_drew)); exact Kd.N_mono HO_3.out (fun _ hk => ⟨hk.1.1.1, ⟨hk.1.1.2.1, ⟨hk.1.1.2.2.1, ⟨hk.1.1.2.2.2.1, ⟨hk.1.1.2.2.2.2.1, ⟨hk.1.1.2.2.2.2.2.1, ⟨hk.1.2, ⟨hk.2, ⟨(by simp [Value.ownBlock]), hk.1.1.2.2.2.2.2.2⟩⟩⟩⟩⟩⟩⟩⟩⟩)⟩, ⟨rU HO_4.out⟩, ⟨rU HO_5.out⟩, ⟨by (with_reducible repeat (first | apply Kd.N_alloc | apply Kd.N_drewN | apply Kd.N_drew)); exact Kd.N_mono HO_6.out (fun _ hk => ⟨hk.1.1.1, ⟨hk.1.1.2.1, ⟨hk.1.1.2.2.1, ⟨hk.1.1.2.2.2.1, ⟨hk.1.1.2.2.2.2.1, ⟨hk.1.1.2.2.2.2.2.1, ⟨hk.1.2, ⟨hk.2, ⟨(by simp [Value.ownBlock]), hk.1.1.2.2.2.2.2.2⟩⟩⟩⟩⟩⟩⟩⟩⟩)⟩, ⟨by (with_reducible repeat (first | apply Kd.R_alloc | apply Kd.R_drewN | apply Kd.R_drew)); exact Kd.R_mono HO_7.out (fun _ hk => ⟨hk.1, ⟨hk.2.1, ⟨(by simp [Value.ownBlock]), hk.2.2⟩⟩⟩)⟩, ⟨by (with_reducible repeat (first | apply Kd.R_alloc | apply Kd.R_drewN | apply Kd.R_drew)); exact Kd.R_mono HO_11.out (fun _ hk => ⟨hk.1, ⟨hk.2.1, ⟨(by simp [Value.ownBlock]), hk.2.2⟩⟩⟩)⟩, ⟨by (with_reducible repeat (first | apply Kd.R_alloc | apply Kd.R_drewN | apply Kd.R_drew)); exact Kd.R_mono HO373.out (fun _ hk => ⟨hk.1.1, hk.2⟩)⟩, ⟨by (with_reducible repeat (first | apply Kd.R_alloc | apply Kd.R_drewN | apply Kd.R_drew)); exact Kd.R_mono HO378.out (fun _ hk => ⟨hk.1.1, hk.2⟩)⟩, ⟨by first | exact Kd.R_nil _ _ _ _ _ | exact Kd.N_nil _ _ _ _ _ | exact Kd.V_nil _ _ _ _ _ | exact Kd.Q_nil _ _ _ _ _ | exact Kd.S_nil _ _ _ _ _⟩, ⟨bU BK351.out⟩, ⟨wV HB.out GE351.out⟩⟩
             case round =>
              clear H'; (try clear c2); (try clear p2); (try clear c3); (try clear p3); (try clear q3); (try clear hx3); (try clear c4); (try clear c5); (try clear c6); (try clear p6); (try clear c7); (try clear c25); (try clear c25b0); (try clear c27); (try clear c27b0); (try clear c28); (try clear c28b0); (try clear c29); (try clear c29b0); (try clear c30); (try clear c30b0); (try clear c31); (try clear c31b0)
              (try clear p34); (try clear q34); (try clear hx34); (try clear c35); (try clear p35); (try clear q35); (try clear hx35); (try clear c36); (try clear p36); (try clear q36); (try clear hx36); (try clear p37); (try clear q37); (try clear hx37); (try clear c40); (try clear c40b0); (try clear c42); (try clear c42b0); (try clear c43); (try clear c43b0); (try clear c47); (try clear c47b0); (try clear c49)
              (try clear c49b0); (try clear c54); (try clear c54b0); (try clear c55); (try clear c55b0); (try clear c56); (try clear c56b0); (try clear c58); (try clear c58b0); (try clear c59); (try clear c59b0); (try clear c60); (try clear c60b0); (try clear c61); (try clear c61b0); (try clear c62); (try clear c62b0); (try clear c63); (try clear c63b0); (try clear p64); (try clear c65); (try clear c68); (try clear c73)
              (try clear c73b0); (try clear c74); (try clear c74b0); (try clear hcz41_0); (try clear hcz41_1); (try clear hcz48_0); (try clear hcz48_1); (try clear hcz50_0); (try clear hcz50_1); (try clear hcz51_0); (try clear hcz51_1); (try clear hfz41_0); (try clear hfz41_1); (try clear hfz48_0); (try clear hfz48_1); (try clear hfz50_0); (try clear hfz50_1); (try clear hfz51_0); (try clear hfz51_1); (try clear hx349_0)
              (try clear hx349_1); (try clear hx350_0); (try clear hx350_1); (try clear hx352_0); (try clear hx353_0); (try clear hx354_0); (try clear hx355_0); (try clear hx359_0); (try clear hx360_0); (try clear hx360_1); (try clear hx361_0); (try clear hx362_0); (try clear hx369_0); (try clear hx369_1); (try clear hx374_0); (try clear hx374_1); (try clear p2); (try clear p3); (try clear p34); (try clear p349)
              (try clear p35); (try clear p350); (try clear p352); (try clear p353); (try clear p354); (try clear p355); (try clear p359); (try clear p36); (try clear p360); (try clear p361); (try clear p362); (try clear p369); (try clear p374); (try clear p6); (try clear p64); (try clear q3); (try clear q34); (try clear q349); (try clear q35); (try clear q350); (try clear q352); (try clear q353); (try clear q354)
              (try clear q355); (try clear q359); (try clear q36); (try clear q360); (try clear q361); (try clear q362); (try clear q369); (try clear q374)
              obtain ⟨x20_7, x21_7, rfl, HA, HK7, HO_3, HO_4, HO_5, HO_6, HO_7, HO_11, HO_16, HO_18, HO_20, BK351, HB⟩ := hrel
              cases gk with
              | zero => exact absurd HA.out (by simp [exegeteref03_Of.l5])
              | succ k7 =>
               have H := HA.out
               clear HA
               simp only [exegeteref03_Of.l5] at H
               by_cases c80 : x21_7 < (t370.length : Int)
               rotate_left
               · rw [if_neg c80] at H
                 have c80b0 : decide (x21_7 < (t370.length : Int)) = false := decide_eq_false c80
                 clear c80
                 by_cases c88 : x3_6.length < 5864062014805
                 rotate_left
                 · rw [if_neg c88] at H
                   exact absurd H (by simp)
                 rw [if_pos c88] at H
                 have LMc88 := Aside0.mk c88
                 clear c88
                 obtain ⟨y384, hy384⟩ : ∃ y_ : List (List (S35)), y_ = (x3_6 ++ [x20_7]) := ⟨_, rfl⟩
                 replace H : (exegeteref03_Of.l4 k7 y384 y322 y325 y343 t346 x8_1 x9_2 x11_5 (wrap64 (x15_6 + 1))) = some r := by first | (rw [hy384]; with_reducible exact H) | (have H2_ := (Option.bind_some _ _).symm.trans H; rw [hy384]; with_reducible exact H2_) | (have H2_ := (Option.bind_some _ _).symm.trans H; with_reducible exact H2_) | with_reducible exact H | (rw [hy384]; exact H) | exact H
                 have Ny384 := Aside0.mk hy384
                 clear hy384; have H' := Aside0.mk H; clear H
                 obtain ⟨Ao89, co89, eo89⟩ := Kd.R_slice HO_16.out
                 subst eo89
                 obtain ⟨Ao91, co91, eo91⟩ := Kd.R_slice HO_20.out
                 subst eo91
                 go_wp2_with (first | ((with_reducible refine gate_builtin (b := .append) (xs := #[.tmp 158, .tmp 160]) rfl ?_); at_builtin; refine Kd.N_append (Kd.slice 35 k35) (w0 := w) w.heap.size rfl (.tmp 158) (.tmp 160) 27 22 (.slice none 0 0) 24 rfl Try.underlying27 info22 rfl (by decide) (by omega) u3 x3_6 x20_7 [.slice Ao91 x20_7.length co91] (fun k_ => (w.heap.size ≤ k_) ∧ some k_ ≠ (.slice (some ad352) y322.length co39 : Value).ownBlock ∧ some k_ ≠ (.slice (some ad354) y325.length co46 : Value).ownBlock ∧ some k_ ≠ (.slice (some ad359) y343.length co72 : Value).ownBlock ∧ some k_ ≠ (.slice (some ad349) t346.length co26 : Value).ownBlock ∧ some k_ ≠ (.slice (some ad369) x11_5.length co77 : Value).ownBlock ∧ some k_ ≠ (.slice Ao89 t370.length co89 : Value).ownBlock ∧ some k_ ≠ (v377 : Value).ownBlock ∧ k_ ≠ gb351) (fun k_ => ((fun k_ => (w.heap.size ≤ k_) ∧ some k_ ≠ (.slice (some ad352) y322.length co39 : Value).ownBlock ∧ some k_ ≠ (.slice (some ad354) y325.length co46 : Value).ownBlock ∧ some k_ ≠ (.slice (some ad359) y343.length co72 : Value).ownBlock ∧ some k_ ≠ (.slice (some ad349) t346.length co26 : Value).ownBlock ∧ some k_ ≠ (.slice (some ad369) x11_5.length co77 : Value).ownBlock ∧ some k_ ≠ (.slice Ao89 t370.length co89 : Value).ownBlock ∧ some k_ ≠ (v377 : Value).ownBlock ∧ k_ ≠ gb351)) k_ ∧ some k_ ≠ (u3 : Value).ownBlock) rfl rfl ?aP (fun _ hk => hk) ?aF ?aO ?aB ?aS ?aL ?_; (case aP => exact (Kd.FK_slice_mk (Kd.R_reads' (Kd.R_mono (ok' := (fun k_ => ((fun k_ => (w.heap.size ≤ k_) ∧ some k_ ≠ (.slice (some ad352) y322.length co39 : Value).ownBlock ∧ some k_ ≠ (.slice (some ad354) y325.length co46 : Value).ownBlock ∧ some k_ ≠ (.slice (some ad359) y343.length co72 : Value).ownBlock ∧ some k_ ≠ (.slice (some ad349) t346.length co26 : Value).ownBlock ∧ some k_ ≠ (.slice (some ad369) x11_5.length co77 : Value).ownBlock ∧ some k_ ≠ (.slice Ao89 t370.length co89 : Value).ownBlock ∧ some k_ ≠ (v377 : Value).ownBlock ∧ k_ ≠ gb351)) k_ ∧ some k_ ≠ (u3 : Value).ownBlock)) (Kd.R_apart' (Kd.R_apart' (Kd.R_apart' (Kd.R_apart' (Kd.R_apart' (Kd.R_apart' (HO_20.out) (Kd.R_typed HO_4.out) (by decide)) (Kd.R_typed HO_5.out) (by decide)) (Kd.N_typed HO_6.out) (by decide)) (Kd.R_typed HO_16.out) (by decide)) (Kd.R_typed HO_18.out) (by decide)) (Kd.N_typed HO_3.out) (by decide)) (fun k_ hk => ⟨⟨hk.1.1.1.1.1.1.1, ⟨hk.1.1.1.1.1.2, ⟨hk.1.1.1.1.2, ⟨hk.1.1.1.2, ⟨hk.1.1.1.1.1.1.2.1, ⟨hk.1.1.1.1.1.1.2.2.1, ⟨hk.1.1.2, ⟨hk.1.2, hk.1.1.1.1.1.1.2.2.2⟩⟩⟩⟩⟩⟩⟩⟩, hk.2⟩))).2.1 (Kd.R_F (Kd.R_mono (ok' := (fun k_ => ((fun k_ => (w.heap.size ≤ k_) ∧ some k_ ≠ (.slice (some ad352) y322.length co39 : Value).ownBlock ∧ some k_ ≠ (.slice (some ad354) y325.length co46 : Value).ownBlock ∧ some k_ ≠ (.slice (some ad359) y343.length co72 : Value).ownBlock ∧ some k_ ≠ (.slice (some ad349) t346.length co26 : Value).ownBlock ∧ some k_ ≠ (.slice (some ad369) x11_5.length co77 : Value).ownBlock ∧ some k_ ≠ (.slice Ao89 t370.length co89 : Value).ownBlock ∧ some k_ ≠ (v377 : Value).ownBlock ∧ k_ ≠ gb351)) k_ ∧ some k_ ≠ (u3 : Value).ownBlock)) (Kd.R_apart' (Kd.R_apart' (Kd.R_apart' (Kd.R_apart' (Kd.R_apart' (Kd.R_apart' (HO_20.out) (Kd.R_typed HO_4.out) (by decide)) (Kd.R_typed HO_5.out) (by decide)) (Kd.N_typed HO_6.out) (by decide)) (Kd.R_typed HO_16.out) (by decide)) (Kd.R_typed HO_18.out) (by decide)) (Kd.N_typed HO_3.out) (by decide)) (fun k_ hk => ⟨⟨hk.1.1.1.1.1.1.1, ⟨hk.1.1.1.1.1.2, ⟨hk.1.1.1.1.2, ⟨hk.1.1.1.2, ⟨hk.1.1.1.1.1.1.2.1, ⟨hk.1.1.1.1.1.1.2.2.1, ⟨hk.1.1.2, ⟨hk.1.2, hk.1.1.1.1.1.1.2.2.2⟩⟩⟩⟩⟩⟩⟩⟩, hk.2⟩))))); (case aB => exact (wV HB.out GE351.out)); (case aF => exact (fun k_ hk => ⟨(Nat.le_trans (below_size (wV HB.out GE351.out)) hk), Kd.fresh' (Kd.R_lt (rU HO_4.out)) k_ hk, Kd.fresh' (Kd.R_lt (rU HO_5.out)) k_ hk, Kd.fresh' (Kd.N_lt (nU HO_6.out)) k_ hk, Kd.fresh' (Kd.R_lt (rU HO_7.out)) k_ hk, Kd.fresh' (Kd.R_lt (rU HO_11.out)) k_ hk, Kd.fresh' (Kd.R_lt (rU HO_16.out)) k_ hk, Kd.fresh' (Kd.R_lt (rU HO_18.out)) k_ hk, Kd.freshB (g := gb351) (o := .cells #[.int .i64 x352000_31, .int .i64 x352001_43] 35 (0, 0)) (bU BK351.out) k_ hk⟩)); (case aO => exact (by (with_reducible repeat (first | apply Kd.N_alloc | apply Kd.N_drewN | apply Kd.N_drew)); exact Kd.N_mono HO_3.out (fun _ hk => ⟨hk.1, ⟨hk.2.1, ⟨hk.2.2.1, ⟨hk.2.2.2.1, ⟨hk.2.2.2.2.1, ⟨hk.2.2.2.2.2.1, ⟨hk.2.2.2.2.2.2.1, ⟨hk.2.2.2.2.2.2.2.1, hk.2.2.2.2.2.2.2.2.2⟩⟩⟩⟩⟩⟩⟩⟩))); (case aS => exact (below_size (wV HB.out GE351.out))); (case aL => have := LMc88.out; omega); intro v385 w90 ho hb hg hat; rw [← Ny384.out] at ho; have n0_ := Aside0.mk (Kd.R_over' (rU HO_4.out) (Kd.N_typed (nU HO_3.out)) (by decide) hg); have n1_ := Aside0.mk (Kd.R_over' (rU HO_5.out) (Kd.N_typed (nU HO_3.out)) (by decide) hg); have n2_ := Aside0.mk (Kd.N_afterv (ok := (fun k_ => (w.heap.size ≤ k_) ∧ some k_ ≠ (.slice (some ad352) y322.length co39 : Value).ownBlock ∧ some k_ ≠ (.slice (some ad354) y325.length co46 : Value).ownBlock ∧ some k_ ≠ (.slice (some ad349) t346.length co26 : Value).ownBlock ∧ some k_ ≠ (.slice (some ad369) x11_5.length co77 : Value).ownBlock ∧ some k_ ≠ (.slice Ao89 t370.length co89 : Value).ownBlock ∧ some k_ ≠ (v377 : Value).ownBlock ∧ some k_ ≠ (.slice Ao91 x20_7.length co91 : Value).ownBlock ∧ k_ ≠ gb351)) (by (with_reducible repeat (first | apply Kd.N_alloc | apply Kd.N_drewN | apply Kd.N_drew)); exact Kd.N_mono HO_6.out (fun _ hk => ⟨⟨hk.1, ⟨hk.2.2.1, ⟨hk.2.2.2.1, ⟨hk.2.2.2.2.1, ⟨hk.2.2.2.2.2.1, ⟨hk.2.2.2.2.2.2.1, ⟨hk.2.2.2.2.2.2.2.1, ⟨hk.2.2.2.2.2.2.2.2.1, hk.2.2.2.2.2.2.2.2.2⟩⟩⟩⟩⟩⟩⟩⟩, hk.2.1⟩)) hg hat); have n3_ := Aside0.mk (Kd.R_over' (rU HO_7.out) (Kd.N_typed (nU HO_3.out)) (by decide) hg); have n4_ := Aside0.mk (Kd.R_over' (rU HO_11.out) (Kd.N_typed (nU HO_3.out)) (by decide) hg); have n5_ := Aside0.mk (Kd.R_over' (rU HO_16.out) (Kd.N_typed (nU HO_3.out)) (by decide) hg); have n6_ := Aside0.mk (Kd.R_over' (rU HO_18.out) (Kd.N_typed (nU HO_3.out)) (by decide) hg); have n7_ := Aside0.mk (blk_grown (g := gb351) (o := .cells #[.int .i64 x352000_31, .int .i64 x352001_43] 35 (0, 0)) (bU BK351.out) hg (Kd.N_ne HO_3.out BK351.out (by decide))); have n8_ := Aside0.mk (hb); have n9_ := Aside0.mk (ho); clear HO_4; clear HO_5; clear HO_6; clear HO_7; clear HO_11; clear HO_16; clear HO_18; clear BK351; clear HB; clear HO_3; clear HO_20; have HO_4 := n0_; have HO_5 := n1_; have HO_6 := n2_; have HO_7 := n3_; have HO_11 := n4_; have HO_16 := n5_; have HO_18 := n6_; have BK351 := n7_; have HB := n8_; have HO386 := n9_; clear n0_ n1_ n2_ n3_ n4_ n5_ n6_ n7_ n8_ n9_; clear ho hb hg hat))
                 go_roundg k7
                 case measure => have := HK1.out; have := HK2.out; have := HJ31.out; have := HJ43.out; have := HK5.out; have := HK6.out; have := HK7.out; omega
                 case rel => exact ⟨(y384), (wrap64 (x15_6 + 1)), (by first | rfl | (simp; done) | (simp [*]; done) | (simp [*, bne]; done)), H', ⟨by have := HK1.out; have := HK2.out; have := HJ31.out; have := HJ43.out; have := HK5.out; have := HK6.out; have := HK7.out; omega⟩, ⟨by (with_reducible repeat (first | apply Kd.N_alloc | apply Kd.N_drewN | apply Kd.N_drew)); exact Kd.N_mono HO386.out (fun _ hk => ⟨hk.1, ⟨hk.2.1, ⟨hk.2.2.1, ⟨hk.2.2.2.1, ⟨hk.2.2.2.2.1, ⟨hk.2.2.2.2.2.1, hk.2.2.2.2.2.2.2.2⟩⟩⟩⟩⟩⟩)⟩, ⟨rU HO_4.out⟩, ⟨rU HO_5.out⟩, ⟨by (with_reducible repeat (first | apply Kd.N_alloc | apply Kd.N_drewN | apply Kd.N_drew)); exact Kd.N_mono HO_6.out (fun _ hk => ⟨hk.1.1, ⟨hk.2, ⟨hk.1.2.1, ⟨hk.1.2.2.1, ⟨hk.1.2.2.2.1, ⟨hk.1.2.2.2.2.1, hk.1.2.2.2.2.2.2.2.2⟩⟩⟩⟩⟩⟩)⟩, ⟨by (with_reducible repeat (first | apply Kd.R_alloc | apply Kd.R_drewN | apply Kd.R_drew)); exact Kd.R_mono HO_7.out (fun _ hk => ⟨hk.1, ⟨hk.2.1, hk.2.2.2⟩⟩)⟩, ⟨by (with_reducible repeat (first | apply Kd.R_alloc | apply Kd.R_drewN | apply Kd.R_drew)); exact Kd.R_mono HO_11.out (fun _ hk => ⟨hk.1, ⟨hk.2.1, hk.2.2.2⟩⟩)⟩, ⟨bU BK351.out⟩, ⟨wV HB.out GE351.out⟩⟩
               rw [if_pos c80] at H
               have c80b0 : decide (x21_7 < (t370.length : Int)) = true := decide_eq_true c80
               clear c80
               by_cases c81 : 0 ≤ x21_7
               rotate_left
               · rw [if_neg c81] at H
                 exact absurd H (by simp)
               rw [if_pos c81] at H
               have c81b0 : decide (0 ≤ x21_7) = true := decide_eq_true c81
               clear c81
               by_cases c82 : x21_7 < (t375.length : Int)
               rotate_left
               · rw [if_neg c82] at H
                 exact absurd H (by simp)
               rw [if_pos c82] at H
               have c82b0 : decide (x21_7 < (t375.length : Int)) = true := decide_eq_true c82
               clear c82
               by_cases c83 : x20_7.length < 8796093022208
               rotate_left
               · rw [if_neg c83] at H
                 exact absurd H (by simp)
               rw [if_pos c83] at H
               have LMc83 := Aside0.mk c83
               clear c83
               obtain ⟨y381, hy381⟩ : ∃ y_ : List (S35), y_ = (x20_7 ++ [(⟨wrap64 (rd t370 x21_7), wrap64 (rd t375 x21_7)⟩ : S35)]) := ⟨_, rfl⟩
               replace H : (exegeteref03_Of.l5 k7 x3_6 y322 y325 y343 t346 x8_1 x9_2 x11_5 x15_6 t370 t375 y381 (wrap64 (x21_7 + 1))) = some r := by first | (rw [hy381]; with_reducible exact H) | (have H2_ := (Option.bind_some _ _).symm.trans H; rw [hy381]; with_reducible exact H2_) | (have H2_ := (Option.bind_some _ _).symm.trans H; with_reducible exact H2_) | with_reducible exact H | (rw [hy381]; exact H) | exact H
               have Ny381 := Aside0.mk hy381
               clear hy381; have H' := Aside0.mk H; clear H
               obtain ⟨Ao84, co84, eo84⟩ := Kd.R_slice HO_16.out
               subst eo84
               try go_wp2
               have n0_ := Aside0.mk (Kd.N_drew HO_3.out)
               have n1_ := Aside0.mk (Kd.R_drew HO_4.out)
               have n2_ := Aside0.mk (Kd.R_drew HO_5.out)
               have n3_ := Aside0.mk (Kd.N_drew HO_6.out)
               have n4_ := Aside0.mk (Kd.R_drew HO_7.out)
               have n5_ := Aside0.mk (Kd.R_drew HO_11.out)
               have n6_ := Aside0.mk (Kd.R_drew HO_16.out)
               have n7_ := Aside0.mk (Kd.R_drew HO_18.out)
               have n8_ := Aside0.mk (Kd.R_drew HO_20.out)
               have n9_ := Aside0.mk (blk_drew BK351.out)
               have n10_ := Aside0.mk (below_drew1 HB.out)
               clear HO_3 HO_4 HO_5 HO_6 HO_7 HO_11 HO_16 HO_18 HO_20 BK351 HB; have HO_3 := n0_; have HO_4 := n1_; have HO_5 := n2_; have HO_6 := n3_; have HO_7 := n4_; have HO_11 := n5_; have HO_16 := n6_; have HO_18 := n7_; have HO_20 := n8_; have BK351 := n9_; have HB := n10_; clear n0_ n1_ n2_ n3_ n4_ n5_ n6_ n7_ n8_ n9_ n10_
               have p379 : 0 ≤ (x21_7 : Int) := of_decide_eq_true (by first | (with_reducible assumption) | assumption)
               have q379 : x21_7 < (t370.length : Int) := of_decide_eq_true (by first | (with_reducible assumption) | assumption)
               obtain ⟨ad379, e379, hx379_0⟩ := Kd.at_int (Kd.R_reads' HO_16.out).2.2 x21_7 p379 q379
               cases e379; replace p379 := eq_true p379; replace q379 := eq_true q379
               obtain ⟨Ao86, co86, eo86⟩ := Kd.R_slice HO_18.out
               (first | subst eo86 | (injection eo86 with f1_ f2_ f3_; have f4_ := f1_.symm; have f5_ := f3_.symm; clear f1_ f2_ f3_; subst f4_; subst f5_))
               have p380 : 0 ≤ (x21_7 : Int) := of_decide_eq_true (by first | (with_reducible assumption) | assumption)
               have q380 : x21_7 < (t375.length : Int) := of_decide_eq_true (by first | (with_reducible assumption) | assumption)
               obtain ⟨ad380, e380, hx380_0⟩ := Kd.at_int (Kd.R_reads' HO_18.out).2.2 x21_7 p380 q380
               cases e380; replace p380 := eq_true p380; replace q380 := eq_true q380
               refine start_ (n := 15) (S := fun w' => w'.cell? (ad379.add (x21_7).toNat) = some (.int .u8 (rd t370 x21_7)) ∧ w'.cell? (ad380.add (x21_7).toNat) = some (.int .u8 (rd t375 x21_7))) (ds := [12, 13]) #[false, false, false, false, false, false, false, false, false, false, false, false, false, false, false] (by kernel_rfl) rfl rfl ⟨hx379_0, hx380_0⟩ (fun hHeld => ?_); refine with_tabW exegeteref03_Of.tab37 exegeteref03_Of.bits37 (fun HT_ HW_ => ?_)
               generalize wr.drew = w85 at HO_3 HO_4 HO_5 HO_6 HO_7 HO_11 HO_16 HO_18 HO_20 BK351 HB hx379_0 hx380_0 hHeld ⊢
               refine pure_ (i := 0) (N := some 144) (v := ?_) (a' := ?_) #[true, false, false, false, false, false, false, false, false, false, false, false, false, false, false] rfl rfl (any_of HT_.out (by kernel_rfl)) (fun _ _ _ h => h) (Or.inl ⟨by rfl, ?_⟩) ?_ ?_
               rotate_left
               · intro w'
                 go_simp
                 with_reducible rfl
               rotate_left
               · simp only [Act.put, qA, qB, qC, i64_w, i32_w]
                 rfl
               refine pure_ (i := 1) (N := some 145) (v := ?_) (a' := ?_) #[true, true, false, false, false, false, false, false, false, false, false, false, false, false, false] rfl rfl (any_of HT_.out (by kernel_rfl)) (fun _ _ _ h => h) (Or.inl ⟨by rfl, ?_⟩) ?_ ?_
               rotate_left
               · intro w'
                 go_simp
                 with_reducible rfl
               rotate_left
               · simp only [Act.put, qA, qB, qC, i64_w, i32_w]
                 rfl
               refine pure_ (i := 2) (N := some 146) (v := ?_) (a' := ?_) #[true, true, true, false, false, false, false, false, false, false, false, false, false, false, false] rfl rfl (any_of HT_.out (by kernel_rfl)) (fun _ _ _ h => h) (Or.inl ⟨by rfl, ?_⟩) ?_ ?_
               rotate_left
               · intro w'
                 go_simp
                 with_reducible rfl
               rotate_left
               · simp only [Act.put, qA, qB, qC, i64_w, i32_w]
                 rfl
               refine pure_ (i := 3) (N := some 147) (v := ?_) (a' := ?_) #[true, true, true, true, false, false, false, false, false, false, false, false, false, false, false] rfl rfl (any_of HT_.out (by kernel_rfl)) (fun _ _ _ h => h) (Or.inl ⟨by rfl, ?_⟩) ?_ ?_
               rotate_left
               · intro w'
                 go_simp
                 with_reducible rfl
               rotate_left
               · simp only [Act.put, qA, qB, qC, i64_w, i32_w]
                 rfl
               refine pure_ (i := 6) (N := some 150) (v := ?_) (a' := ?_) #[true, true, true, true, false, false, true, false, false, false, false, false, false, false, false] rfl rfl (any_of HT_.out (by kernel_rfl)) (fun _ _ _ h => h) (Or.inl ⟨by rfl, ?_⟩) ?_ ?_
               rotate_left
               · intro w'
                 go_simp
                 with_reducible rfl
               rotate_left
               · simp only [Act.put, qA, qB, qC, i64_w, i32_w]
                 rfl
               refine pure_ (i := 7) (N := some 151) (v := ?_) (a' := ?_) #[true, true, true, true, false, false, true, true, false, false, false, false, false, false, false] rfl rfl (any_of HT_.out (by kernel_rfl)) (fun _ _ _ h => h) (Or.inl ⟨by rfl, ?_⟩) ?_ ?_
               rotate_left
               · intro w'
                 go_simp
                 with_reducible rfl
               rotate_left
               · simp only [Act.put, qA, qB, qC, i64_w, i32_w]
                 rfl
               refine pure_ (i := 8) (N := some 152) (v := ?_) (a' := ?_) #[true, true, true, true, false, false, true, true, true, false, false, false, false, false, false] rfl rfl (any_of HT_.out (by kernel_rfl)) (fun _ _ _ h => h) (Or.inl ⟨by rfl, ?_⟩) ?_ ?_
               rotate_left
               · intro w'
                 go_simp
                 with_reducible rfl
               rotate_left
               · simp only [Act.put, qA, qB, qC, i64_w, i32_w]
                 rfl
               refine take_ (i := 4) (N := some 148) (v := ?_) (a' := ?_) #[true, true, true, true, true, false, true, true, true, false, false, false, false, false, false] rfl rfl (take_ofW HT_.out HW_.out (by kernel_rfl)) (fun _ _ _ h => h) (Or.inl ⟨by rfl, ?_⟩) hHeld ?_ ?_
               rotate_left
               · rintro w' ⟨s0, s1⟩
                 go_simp
                 with_reducible rfl
               rotate_left
               · simp only [Act.put, qA, qB, qC, i64_w, i32_w]
                 rfl
               refine pure_ (i := 5) (N := some 149) (v := ?_) (a' := ?_) #[true, true, true, true, true, true, true, true, true, false, false, false, false, false, false] rfl rfl (any_of HT_.out (by kernel_rfl)) (fun _ _ _ h => h) (Or.inl ⟨by rfl, ?_⟩) ?_ ?_
               rotate_left
               · intro w'
                 go_simp
                 with_reducible rfl
               rotate_left
               · simp only [Act.put, qA, qB, qC, i64_w, i32_w]
                 rfl
               refine take_ (i := 9) (N := some 153) (v := ?_) (a' := ?_) #[true, true, true, true, true, true, true, true, true, true, false, false, false, false, false] rfl rfl (take_ofW HT_.out HW_.out (by kernel_rfl)) (fun _ _ _ h => h) (Or.inl ⟨by rfl, ?_⟩) hHeld ?_ ?_
               rotate_left
               · rintro w' ⟨s0, s1⟩
                 go_simp
                 with_reducible rfl
               rotate_left
               · simp only [Act.put, qA, qB, qC, i64_w, i32_w]
                 rfl
               refine pure_ (i := 10) (N := some 154) (v := ?_) (a' := ?_) #[true, true, true, true, true, true, true, true, true, true, true, false, false, false, false] rfl rfl (any_of HT_.out (by kernel_rfl)) (fun _ _ _ h => h) (Or.inl ⟨by rfl, ?_⟩) ?_ ?_
               rotate_left
               · intro w'
                 go_simp
                 with_reducible rfl
               rotate_left
               · simp only [Act.put, qA, qB, qC, i64_w, i32_w]
                 rfl
               refine pure_ (i := 11) (N := some 155) (v := ?_) (a' := ?_) #[true, true, true, true, true, true, true, true, true, true, true, true, false, false, false] rfl rfl (any_of HT_.out (by kernel_rfl)) (fun _ _ _ h => h) (Or.inl ⟨by rfl, ?_⟩) ?_ ?_
               rotate_left
               · intro w'
                 go_simp
                 with_reducible rfl
               rotate_left
               · simp only [Act.put, qA, qB, qC, i64_w, i32_w]
                 rfl
               refine last_ (i := 12) (N := some 156) #[true, true, true, true, true, true, true, true, true, true, true, true, true, false, false] rfl rfl (one_of HT_.out (by kernel_rfl)) (by decide) (fun K hK => ?_)
               refine value_ (w1 := ?_) (v := ?_) (by rfl) rfl ?_ ?_
               rotate_left 2
               · go_simp
                 constructor
                 · rfl
                 rfl
               refine hK.out _ _ ?_
               clear hK K
               refine norm_ (a' := ?_) ?_ ?_
               rotate_left
               · show Act.put _ (some 156) _ = _
                 simp only [Act.put, qA, qB, qC, i64_w, i32_w]
                 rfl
               refine last_ (i := 13) (N := some 157) #[true, true, true, true, true, true, true, true, true, true, true, true, true, true, false] rfl rfl (one_of HT_.out (by kernel_rfl)) (by decide) (fun K hK => ?_)
               refine Kd.R_append_step k35 (w0 := w) w.heap.size (by rfl) (.tmp 144) (.tmp 156) 22 35 (.agg #[(.int .i64 0), (.int .i64 0)]) 16 rfl Try.underlying22 info35 rfl (by decide) (by omega) u20 x20_7 (⟨wrap64 (rd t370 x21_7), wrap64 (rd t375 x21_7)⟩ : S35) [.int .i64 (wrap64 (rd t370 x21_7)), .int .i64 (wrap64 (rd t375 x21_7))] (fun k_ => (w.heap.size ≤ k_) ∧ some k_ ≠ (.slice (some ad349) t346.length co26 : Value).ownBlock ∧ some k_ ≠ (.slice (some ad369) x11_5.length co77 : Value).ownBlock ∧ k_ ≠ gb351) (fun _ => False) rfl rfl ?aP (fun _ hk => hk.elim) ?aF ?aO ?aB ?aS ?aL ?_
               (case aP => exact k35_mkM _ _ _ (⟨wrap64 (rd t370 x21_7), wrap64 (rd t375 x21_7)⟩ : S35))
               (case aB => exact (wV HB.out GE351.out))
               (case aF => exact (fun k_ hk => ⟨(Nat.le_trans (below_size (wV HB.out GE351.out)) hk), Kd.fresh' (Kd.R_lt (rU HO_7.out)) k_ hk, Kd.fresh' (Kd.R_lt (rU HO_11.out)) k_ hk, Kd.freshB (g := gb351) (o := .cells #[.int .i64 x352000_31, .int .i64 x352001_43] 35 (0, 0)) (bU BK351.out) k_ hk⟩))
               (case aO => exact (rU HO_20.out))
               (case aS => exact (below_size (wV HB.out GE351.out)))
               (case aL => have := LMc83.out; omega)
               intro v382 w87 ho hb hg hat
               rw [← Ny381.out] at ho
               have n0_ := Aside0.mk (Kd.N_afterv (ok := (fun k_ => (w.heap.size ≤ k_) ∧ some k_ ≠ (.slice (some ad352) y322.length co39 : Value).ownBlock ∧ some k_ ≠ (.slice (some ad354) y325.length co46 : Value).ownBlock ∧ some k_ ≠ (.slice (some ad359) y343.length co72 : Value).ownBlock ∧ some k_ ≠ (.slice (some ad349) t346.length co26 : Value).ownBlock ∧ some k_ ≠ (.slice (some ad369) x11_5.length co77 : Value).ownBlock ∧ some k_ ≠ (.slice (some ad379) t370.length co84 : Value).ownBlock ∧ some k_ ≠ (.slice (some ad380) t375.length co86 : Value).ownBlock ∧ k_ ≠ gb351)) (by (with_reducible repeat (first | apply Kd.N_alloc | apply Kd.N_drewN | apply Kd.N_drew)); exact Kd.N_mono HO_3.out (fun _ hk => ⟨⟨hk.1, ⟨hk.2.1, ⟨hk.2.2.1, ⟨hk.2.2.2.1, ⟨hk.2.2.2.2.1, ⟨hk.2.2.2.2.2.1, ⟨hk.2.2.2.2.2.2.1, ⟨hk.2.2.2.2.2.2.2.1, hk.2.2.2.2.2.2.2.2.2⟩⟩⟩⟩⟩⟩⟩⟩, hk.2.2.2.2.2.2.2.2.1⟩)) hg hat)
               have n1_ := Aside0.mk (Kd.R_over' (rU HO_4.out) (Kd.R_typed (rU HO_20.out)) (by decide) hg)
               have n2_ := Aside0.mk (Kd.R_over' (rU HO_5.out) (Kd.R_typed (rU HO_20.out)) (by decide) hg)
               have n3_ := Aside0.mk (Kd.N_afterv (ok := (fun k_ => (w.heap.size ≤ k_) ∧ some k_ ≠ (u3 : Value).ownBlock ∧ some k_ ≠ (.slice (some ad352) y322.length co39 : Value).ownBlock ∧ some k_ ≠ (.slice (some ad354) y325.length co46 : Value).ownBlock ∧ some k_ ≠ (.slice (some ad349) t346.length co26 : Value).ownBlock ∧ some k_ ≠ (.slice (some ad369) x11_5.length co77 : Value).ownBlock ∧ some k_ ≠ (.slice (some ad379) t370.length co84 : Value).ownBlock ∧ some k_ ≠ (.slice (some ad380) t375.length co86 : Value).ownBlock ∧ k_ ≠ gb351)) (by (with_reducible repeat (first | apply Kd.N_alloc | apply Kd.N_drewN | apply Kd.N_drew)); exact Kd.N_mono HO_6.out (fun _ hk => ⟨⟨hk.1, ⟨hk.2.1, ⟨hk.2.2.1, ⟨hk.2.2.2.1, ⟨hk.2.2.2.2.1, ⟨hk.2.2.2.2.2.1, ⟨hk.2.2.2.2.2.2.1, ⟨hk.2.2.2.2.2.2.2.1, hk.2.2.2.2.2.2.2.2.2⟩⟩⟩⟩⟩⟩⟩⟩, hk.2.2.2.2.2.2.2.2.1⟩)) hg hat)
               have n4_ := Aside0.mk (Kd.R_after (ok := (fun k_ => (w.heap.size ≤ k_) ∧ some k_ ≠ (.slice (some ad369) x11_5.length co77 : Value).ownBlock ∧ k_ ≠ gb351)) (by (with_reducible repeat (first | apply Kd.R_alloc | apply Kd.R_drewN | apply Kd.R_drew)); exact Kd.R_mono HO_7.out (fun _ hk => ⟨⟨hk.1, ⟨hk.2.1, hk.2.2.2⟩⟩, hk.2.2.1⟩)) hg hat)
               have n5_ := Aside0.mk (Kd.R_after (ok := (fun k_ => (w.heap.size ≤ k_) ∧ some k_ ≠ (.slice (some ad349) t346.length co26 : Value).ownBlock ∧ k_ ≠ gb351)) (by (with_reducible repeat (first | apply Kd.R_alloc | apply Kd.R_drewN | apply Kd.R_drew)); exact Kd.R_mono HO_11.out (fun _ hk => ⟨⟨hk.1, ⟨hk.2.1, hk.2.2.2⟩⟩, hk.2.2.1⟩)) hg hat)
               have n6_ := Aside0.mk (Kd.R_over' (rU HO_16.out) (Kd.R_typed (rU HO_20.out)) (by decide) hg)
               have n7_ := Aside0.mk (Kd.R_over' (rU HO_18.out) (Kd.R_typed (rU HO_20.out)) (by decide) hg)
               have n8_ := Aside0.mk (blk_grown (g := gb351) (o := .cells #[.int .i64 x352000_31, .int .i64 x352001_43] 35 (0, 0)) (bU BK351.out) hg (Kd.R_away HO_20.out (fun _ hk => hk.2.2.2)))
               have n9_ := Aside0.mk (hb)
               have n10_ := Aside0.mk (ho)
               clear HO_3 HO_4 HO_5 HO_6 HO_7 HO_11 HO_16 HO_18 BK351 HB HO_20; have HO_3 := n0_; have HO_4 := n1_; have HO_5 := n2_; have HO_6 := n3_; have HO_7 := n4_; have HO_11 := n5_; have HO_16 := n6_; have HO_18 := n7_; have BK351 := n8_; have HB := n9_; have HO383 := n10_; clear n0_ n1_ n2_ n3_ n4_ n5_ n6_ n7_ n8_ n9_ n10_ ho hb hg hat
               refine hK.out _ _ ?_
               clear hK K
               refine norm_ (a' := ?_) ?_ ?_
               rotate_left
               · show Act.put _ (some 157) _ = _
                 simp only [Act.put, qA, qB, qC, i64_w, i32_w]
                 rfl
               refine pure_ (i := 14) (N := some 20) (v := ?_) (a' := ?_) #[true, true, true, true, true, true, true, true, true, true, true, true, true, true, true] rfl rfl (any_of HT_.out (by kernel_rfl)) (fun _ _ _ h => h) (Or.inl ⟨by rfl, ?_⟩) ?_ ?_
               rotate_left
               · intro w'
                 go_simp
                 with_reducible rfl
               rotate_left
               · simp only [Act.put, qA, qB, qC, i64_w, i32_w]
                 rfl
               refine done_ (done_of HT_.out (by kernel_rfl)) ?_
               try go_wp2
               go_roundg k7
               case measure => have := HK1.out; have := HK2.out; have := HJ31.out; have := HJ43.out; have := HK5.out; have := HK6.out; have := HK7.out; omega
               case rel => exact ⟨(y381), (wrap64 (x21_7 + 1)), (by first | rfl | (simp; done) | (simp [*]; done) | (simp [*, bne]; done)), H', ⟨by have := HK1.out; have := HK2.out; have := HJ31.out; have := HJ43.out; have := HK5.out; have := HK6.out; have := HK7.out; omega⟩, ⟨by (with_reducible repeat (first | apply Kd.N_alloc | apply Kd.N_drewN | apply Kd.N_drew)); exact Kd.N_mono HO_3.out (fun _ hk => ⟨hk.1.1, ⟨hk.1.2.1, ⟨hk.1.2.2.1, ⟨hk.1.2.2.2.1, ⟨hk.1.2.2.2.2.1, ⟨hk.1.2.2.2.2.2.1, ⟨hk.1.2.2.2.2.2.2.1, ⟨hk.1.2.2.2.2.2.2.2.1, ⟨hk.2, hk.1.2.2.2.2.2.2.2.2⟩⟩⟩⟩⟩⟩⟩⟩⟩)⟩, ⟨rU HO_4.out⟩, ⟨rU HO_5.out⟩, ⟨by (with_reducible repeat (first | apply Kd.N_alloc | apply Kd.N_drewN | apply Kd.N_drew)); exact Kd.N_mono HO_6.out (fun _ hk => ⟨hk.1.1, ⟨hk.1.2.1, ⟨hk.1.2.2.1, ⟨hk.1.2.2.2.1, ⟨hk.1.2.2.2.2.1, ⟨hk.1.2.2.2.2.2.1, ⟨hk.1.2.2.2.2.2.2.1, ⟨hk.1.2.2.2.2.2.2.2.1, ⟨hk.2, hk.1.2.2.2.2.2.2.2.2⟩⟩⟩⟩⟩⟩⟩⟩⟩)⟩, ⟨by (with_reducible repeat (first | apply Kd.R_alloc | apply Kd.R_drewN | apply Kd.R_drew)); exact Kd.R_mono HO_7.out (fun _ hk => ⟨hk.1.1, ⟨hk.1.2.1, ⟨hk.2, hk.1.2.2⟩⟩⟩)⟩, ⟨by (with_reducible repeat (first | apply Kd.R_alloc | apply Kd.R_drewN | apply Kd.R_drew)); exact Kd.R_mono HO_11.out (fun _ hk => ⟨hk.1.1, ⟨hk.1.2.1, ⟨hk.2, hk.1.2.2⟩⟩⟩)⟩, ⟨rU HO_16.out⟩, ⟨rU HO_18.out⟩, ⟨rU HO383.out⟩, ⟨bU BK351.out⟩, ⟨wV HB.out GE351.out⟩⟩
end Go.Proofs.Ytcdahnkdongmdaa.All
