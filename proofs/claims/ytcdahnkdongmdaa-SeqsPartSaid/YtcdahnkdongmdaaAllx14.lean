/- Contracts of functions of the program, each for every input, printed for this claim by a program out of the translation, some written by hand. -/
import Derived.Test.YtcdahnkdongmdaaAllx0
import Derived.Test.YtcdahnkdongmdaaAllx4
import Derived.Test.YtcdahnkdongmdaaAllx6
import Derived.Test.YtcdahnkdongmdaaAllx7
import Derived.Test.YtcdahnkdongmdaaAllx8
import Derived.Test.YtcdahnkdongmdaaAllx13
namespace Go.Proofs.Ytcdahnkdongmdaa.All
open Go.RowKit Go.Proofs.YtcdahnkdongmdaaW.PrintWords Go.Proofs.YtcdahnkdongmdaaW.PrintLast Go.Proofs.YtcdahnkdongmdaaW.PrintMore
attribute [local go_sem] max2_int min2_int max_two min_two max_three min_three max_four min_four   -- for this text's walks alone
set_option linter.unusedVariables false
set_option linter.unusedSimpArgs false

/-! ### utf_Next: function 23 -/
theorem utf_way2 (A0 : Option Addr) (c0 : Nat) (l0 : List Int) (r1 : Int) (r2 : Bool) (w : World) (hr0 : Kd.C (Kd.int .u8) w A0 l0.length l0) (hc0 : l0.length ≤ c0) (h : utf_part_of.f 10 l0 2 192 = some (r1, r2)) :
    Calls Try.prog 46 #[.slice A0 l0.length c0] w fun e w' => e = .returned (.tuple #[.int .i64 r1, .bool r2]) ∧ Below w.heap.size w w' := by
  have HR := Aside0.mk hr0; have HC := Aside0.mk hc0; have H := Aside0.mk h; clear hr0 hc0 h
  have hix := heads_at2
  go_enter Try.func46, Try.ntmps46
  go_wp2_with (first | (go_at_call 35; (with_reducible refine (heads_calls _).mono ?_); rintro e w' ⟨rfl, rfl⟩) | (go_at_call 64; (with_reducible refine (utf_part_of.calls 10 A0 c0 l0 2 192 r1 r2 _ ?side1 HC.out H.out).mono ?_); (case side1 => exact Kd.C_alloc HR.out _); rintro e w' ⟨rfl, ⟨nd, rfl⟩⟩))
  go_ret2
  exact ⟨rfl, pw_below_drewN ((Below.refl _ _).alloc (Nat.le_refl _) _) _⟩
theorem utf_way3 (A0 : Option Addr) (c0 : Nat) (l0 : List Int) (r1 : Int) (r2 : Bool) (w : World) (hr0 : Kd.C (Kd.int .u8) w A0 l0.length l0) (hc0 : l0.length ≤ c0) (h : utf_part_of.f 10 l0 3 224 = some (r1, r2)) :
    Calls Try.prog 47 #[.slice A0 l0.length c0] w fun e w' => e = .returned (.tuple #[.int .i64 r1, .bool r2]) ∧ Below w.heap.size w w' := by
  have HR := Aside0.mk hr0; have HC := Aside0.mk hc0; have H := Aside0.mk h; clear hr0 hc0 h
  have hix := heads_at3
  go_enter Try.func47, Try.ntmps47
  go_wp2_with (first | (go_at_call 35; (with_reducible refine (heads_calls _).mono ?_); rintro e w' ⟨rfl, rfl⟩) | (go_at_call 64; (with_reducible refine (utf_part_of.calls 10 A0 c0 l0 3 224 r1 r2 _ ?side1 HC.out H.out).mono ?_); (case side1 => exact Kd.C_alloc HR.out _); rintro e w' ⟨rfl, ⟨nd, rfl⟩⟩))
  go_ret2
  exact ⟨rfl, pw_below_drewN ((Below.refl _ _).alloc (Nat.le_refl _) _) _⟩
theorem utf_way4 (A0 : Option Addr) (c0 : Nat) (l0 : List Int) (r1 : Int) (r2 : Bool) (w : World) (hr0 : Kd.C (Kd.int .u8) w A0 l0.length l0) (hc0 : l0.length ≤ c0) (h : utf_part_of.f 10 l0 4 240 = some (r1, r2)) :
    Calls Try.prog 48 #[.slice A0 l0.length c0] w fun e w' => e = .returned (.tuple #[.int .i64 r1, .bool r2]) ∧ Below w.heap.size w w' := by
  have HR := Aside0.mk hr0; have HC := Aside0.mk hc0; have H := Aside0.mk h; clear hr0 hc0 h
  have hix := heads_at4
  go_enter Try.func48, Try.ntmps48
  go_wp2_with (first | (go_at_call 35; (with_reducible refine (heads_calls _).mono ?_); rintro e w' ⟨rfl, rfl⟩) | (go_at_call 64; (with_reducible refine (utf_part_of.calls 10 A0 c0 l0 4 240 r1 r2 _ ?side1 HC.out H.out).mono ?_); (case side1 => exact Kd.C_alloc HR.out _); rintro e w' ⟨rfl, ⟨nd, rfl⟩⟩))
  go_ret2
  exact ⟨rfl, pw_below_drewN ((Below.refl _ _).alloc (Nat.le_refl _) _) _⟩
def utf_Next.f (l0 : List Int) (a1 : Int) : Option (Int × Int) :=
  if a1 < 0 then some (-1, 0) else if a1 ≥ (l0.length : Int) then some (-1, 0) else
  (utf_part_one.f 10 (l0.drop a1.toNat)).bind fun t1 => if t1.2 = true then some (t1.1, 1) else
  (utf_part_of.f 10 (l0.drop a1.toNat) 2 192).bind fun t2 => if t2.2 = true then some (t2.1, 2) else
  (utf_part_of.f 10 (l0.drop a1.toNat) 3 224).bind fun t3 => if t3.2 = true then some (t3.1, 3) else
  (utf_part_of.f 10 (l0.drop a1.toNat) 4 240).bind fun t4 => if t4.2 = true then some (t4.1, 4) else some (-1, 1)
theorem utf_fn0 (W : World) : (Instr.index 74 (.agg #[.func (.func 45) #[] #[], .func (.func 46) #[] #[], .func (.func 47) #[] #[], .func (.func 48) #[] #[]]) (.int .i64 0)).run Try.prog W = .ok (.func (.func 45) #[] #[]) W := by kernel_rfl
theorem utf_fn1 (W : World) : (Instr.index 74 (.agg #[.func (.func 45) #[] #[], .func (.func 46) #[] #[], .func (.func 47) #[] #[], .func (.func 48) #[] #[]]) (.int .i64 1)).run Try.prog W = .ok (.func (.func 46) #[] #[]) W := by kernel_rfl
theorem utf_fn2 (W : World) : (Instr.index 74 (.agg #[.func (.func 45) #[] #[], .func (.func 46) #[] #[], .func (.func 47) #[] #[], .func (.func 48) #[] #[]]) (.int .i64 2)).run Try.prog W = .ok (.func (.func 47) #[] #[]) W := by kernel_rfl
theorem utf_fn3 (W : World) : (Instr.index 74 (.agg #[.func (.func 45) #[] #[], .func (.func 46) #[] #[], .func (.func 47) #[] #[], .func (.func 48) #[] #[]]) (.int .i64 3)).run Try.prog W = .ok (.func (.func 48) #[] #[]) W := by kernel_rfl
set_option maxHeartbeats 1600000 in
set_option maxRecDepth 100000 in
theorem utf_Next.at1 (A0 : Option Addr) (c0 : Nat) (l0 : List Int) (a1 : Int) (w : World) (hr0 : Kd.C (Kd.int .u8) w A0 l0.length l0) (hc0 : l0.length ≤ c0) (h0 : 0 ≤ a1) (h1 : a1 < (l0.length : Int)) (p1 : Int) (e1 : utf_part_one.f 10 (l0.drop a1.toNat) = some (p1, true)) :
    Calls Try.prog 23 #[.slice A0 l0.length c0, .int .i64 a1] w fun e w' => e = .returned (.tuple #[.int .i64 p1, .int .i64 1]) ∧ Below w.heap.size w w' := by
  obtain ⟨i0, hi0, _, hsz, _⟩ := info_parts info5
  have hcut := cut_from (P := Try.prog) 24 5 .i64 Try.underlying24 hi0 1 hsz A0 l0.length c0 a1 h0 (by omega)
  have hr := Kd.C_drop (m := a1.toNat) hr0 (by omega) hc0
  obtain ⟨A1, hA1⟩ : ∃ A1_, A1_ = (if c0 = a1.toNat then A0 else A0.map (·.add (a1.toNat * 1))) := ⟨_, rfl⟩
  obtain ⟨c1, hc1⟩ : ∃ c1_, c1_ = c0 - a1.toNat := ⟨_, rfl⟩
  replace hr : Kd.C (Kd.int .u8) w A1 (l0.drop a1.toNat).length (l0.drop a1.toNat) := by rw [hA1]; exact hr
  rw [← hA1, ← hc1, show l0.length - a1.toNat = (l0.drop a1.toNat).length by rw [List.length_drop]] at hcut
  have hc2 : (l0.drop a1.toNat).length ≤ c1 := by rw [List.length_drop, hc1]; omega
  generalize l0.drop a1.toNat = y at *
  have HR := Aside0.mk hr; have HC := Aside0.mk hc2; clear hr hc2 hr0 hc0 hA1 hc1 hi0 hsz
  have hb0 : decide (a1 < 0) = false := decide_eq_false (by omega)
  have hb1 : decide ((l0.length : Int) ≤ a1) = false := decide_eq_false (by omega)
  have k0 := utf_fn0; have k1 := utf_fn1; have k2 := utf_fn2; have k3 := utf_fn3
  have E1 := Aside0.mk e1; clear e1
  go_enter Try.func23, Try.ntmps23
  go_wp2
  refine wp_loop_rounds 5 ?_
  rw [rounds_succ]
  go_wp2_with (go_at_call 45; (with_reducible refine (utf_part_one.calls 10 A1 c1 y p1 true _ HR.out HC.out E1.out).mono ?_); rintro e w' ⟨rfl, ⟨n1, rfl⟩⟩)
  go_ret2
  exact ⟨rfl, pw_below_drewN (Below.refl _ _) _⟩
set_option maxHeartbeats 1600000 in
set_option maxRecDepth 100000 in
theorem utf_Next.at2 (A0 : Option Addr) (c0 : Nat) (l0 : List Int) (a1 : Int) (w : World) (hr0 : Kd.C (Kd.int .u8) w A0 l0.length l0) (hc0 : l0.length ≤ c0) (h0 : 0 ≤ a1) (h1 : a1 < (l0.length : Int)) (p1 : Int) (p2 : Int) (e1 : utf_part_one.f 10 (l0.drop a1.toNat) = some (p1, false)) (e2 : utf_part_of.f 10 (l0.drop a1.toNat) 2 192 = some (p2, true)) :
    Calls Try.prog 23 #[.slice A0 l0.length c0, .int .i64 a1] w fun e w' => e = .returned (.tuple #[.int .i64 p2, .int .i64 2]) ∧ Below w.heap.size w w' := by
  obtain ⟨i0, hi0, _, hsz, _⟩ := info_parts info5
  have hcut := cut_from (P := Try.prog) 24 5 .i64 Try.underlying24 hi0 1 hsz A0 l0.length c0 a1 h0 (by omega)
  have hr := Kd.C_drop (m := a1.toNat) hr0 (by omega) hc0
  obtain ⟨A1, hA1⟩ : ∃ A1_, A1_ = (if c0 = a1.toNat then A0 else A0.map (·.add (a1.toNat * 1))) := ⟨_, rfl⟩
  obtain ⟨c1, hc1⟩ : ∃ c1_, c1_ = c0 - a1.toNat := ⟨_, rfl⟩
  replace hr : Kd.C (Kd.int .u8) w A1 (l0.drop a1.toNat).length (l0.drop a1.toNat) := by rw [hA1]; exact hr
  rw [← hA1, ← hc1, show l0.length - a1.toNat = (l0.drop a1.toNat).length by rw [List.length_drop]] at hcut
  have hc2 : (l0.drop a1.toNat).length ≤ c1 := by rw [List.length_drop, hc1]; omega
  generalize l0.drop a1.toNat = y at *
  have HR := Aside0.mk hr; have HC := Aside0.mk hc2; clear hr hc2 hr0 hc0 hA1 hc1 hi0 hsz
  have hb0 : decide (a1 < 0) = false := decide_eq_false (by omega)
  have hb1 : decide ((l0.length : Int) ≤ a1) = false := decide_eq_false (by omega)
  have k0 := utf_fn0; have k1 := utf_fn1; have k2 := utf_fn2; have k3 := utf_fn3
  have E1 := Aside0.mk e1; clear e1; have E2 := Aside0.mk e2; clear e2
  go_enter Try.func23, Try.ntmps23
  go_wp2
  refine wp_loop_rounds 5 ?_
  rw [rounds_succ]
  go_wp2_with (go_at_call 45; (with_reducible refine (utf_part_one.calls 10 A1 c1 y p1 false _ HR.out HC.out E1.out).mono ?_); rintro e w' ⟨rfl, ⟨n1, rfl⟩⟩)
  rw [rounds_succ]
  go_wp2_with (go_at_call 46; (with_reducible refine (utf_way2 A1 c1 y p2 true _ ?s2 HC.out E2.out).mono ?_); (case s2 => exact Kd.C_drewN HR.out _); rintro e w2 ⟨rfl, hb2⟩; have HB2 := Aside0.mk (below_step (pw_below_drewN (Below.refl w.heap.size w) n1) hb2); clear hb2)
  go_ret2
  exact ⟨rfl, HB2.out⟩
set_option maxHeartbeats 1600000 in
set_option maxRecDepth 100000 in
theorem utf_Next.at3 (A0 : Option Addr) (c0 : Nat) (l0 : List Int) (a1 : Int) (w : World) (hr0 : Kd.C (Kd.int .u8) w A0 l0.length l0) (hc0 : l0.length ≤ c0) (h0 : 0 ≤ a1) (h1 : a1 < (l0.length : Int)) (p1 : Int) (p2 : Int) (p3 : Int) (e1 : utf_part_one.f 10 (l0.drop a1.toNat) = some (p1, false)) (e2 : utf_part_of.f 10 (l0.drop a1.toNat) 2 192 = some (p2, false)) (e3 : utf_part_of.f 10 (l0.drop a1.toNat) 3 224 = some (p3, true)) :
    Calls Try.prog 23 #[.slice A0 l0.length c0, .int .i64 a1] w fun e w' => e = .returned (.tuple #[.int .i64 p3, .int .i64 3]) ∧ Below w.heap.size w w' := by
  obtain ⟨i0, hi0, _, hsz, _⟩ := info_parts info5
  have hcut := cut_from (P := Try.prog) 24 5 .i64 Try.underlying24 hi0 1 hsz A0 l0.length c0 a1 h0 (by omega)
  have hr := Kd.C_drop (m := a1.toNat) hr0 (by omega) hc0
  obtain ⟨A1, hA1⟩ : ∃ A1_, A1_ = (if c0 = a1.toNat then A0 else A0.map (·.add (a1.toNat * 1))) := ⟨_, rfl⟩
  obtain ⟨c1, hc1⟩ : ∃ c1_, c1_ = c0 - a1.toNat := ⟨_, rfl⟩
  replace hr : Kd.C (Kd.int .u8) w A1 (l0.drop a1.toNat).length (l0.drop a1.toNat) := by rw [hA1]; exact hr
  rw [← hA1, ← hc1, show l0.length - a1.toNat = (l0.drop a1.toNat).length by rw [List.length_drop]] at hcut
  have hc2 : (l0.drop a1.toNat).length ≤ c1 := by rw [List.length_drop, hc1]; omega
  generalize l0.drop a1.toNat = y at *
  have HR := Aside0.mk hr; have HC := Aside0.mk hc2; clear hr hc2 hr0 hc0 hA1 hc1 hi0 hsz
  have hb0 : decide (a1 < 0) = false := decide_eq_false (by omega)
  have hb1 : decide ((l0.length : Int) ≤ a1) = false := decide_eq_false (by omega)
  have k0 := utf_fn0; have k1 := utf_fn1; have k2 := utf_fn2; have k3 := utf_fn3
  have E1 := Aside0.mk e1; clear e1; have E2 := Aside0.mk e2; clear e2; have E3 := Aside0.mk e3; clear e3
  go_enter Try.func23, Try.ntmps23
  go_wp2
  refine wp_loop_rounds 5 ?_
  rw [rounds_succ]
  go_wp2_with (go_at_call 45; (with_reducible refine (utf_part_one.calls 10 A1 c1 y p1 false _ HR.out HC.out E1.out).mono ?_); rintro e w' ⟨rfl, ⟨n1, rfl⟩⟩)
  rw [rounds_succ]
  go_wp2_with (go_at_call 46; (with_reducible refine (utf_way2 A1 c1 y p2 false _ ?s2 HC.out E2.out).mono ?_); (case s2 => exact Kd.C_drewN HR.out _); rintro e w2 ⟨rfl, hb2⟩; have HB2 := Aside0.mk (below_step (pw_below_drewN (Below.refl w.heap.size w) n1) hb2); clear hb2)
  rw [rounds_succ]
  go_wp2_with (go_at_call 47; (with_reducible refine (utf_way3 A1 c1 y p3 true _ ?s3 HC.out E3.out).mono ?_); (case s3 => exact Kd.C_below HR.out HB2.out); rintro e w3 ⟨rfl, hb3⟩; have HB3 := Aside0.mk (below_step HB2.out hb3); clear hb3)
  go_ret2
  exact ⟨rfl, HB3.out⟩
set_option maxHeartbeats 1600000 in
set_option maxRecDepth 100000 in
theorem utf_Next.at4 (A0 : Option Addr) (c0 : Nat) (l0 : List Int) (a1 : Int) (w : World) (hr0 : Kd.C (Kd.int .u8) w A0 l0.length l0) (hc0 : l0.length ≤ c0) (h0 : 0 ≤ a1) (h1 : a1 < (l0.length : Int)) (p1 : Int) (p2 : Int) (p3 : Int) (p4 : Int) (e1 : utf_part_one.f 10 (l0.drop a1.toNat) = some (p1, false)) (e2 : utf_part_of.f 10 (l0.drop a1.toNat) 2 192 = some (p2, false)) (e3 : utf_part_of.f 10 (l0.drop a1.toNat) 3 224 = some (p3, false)) (e4 : utf_part_of.f 10 (l0.drop a1.toNat) 4 240 = some (p4, true)) :
    Calls Try.prog 23 #[.slice A0 l0.length c0, .int .i64 a1] w fun e w' => e = .returned (.tuple #[.int .i64 p4, .int .i64 4]) ∧ Below w.heap.size w w' := by
  obtain ⟨i0, hi0, _, hsz, _⟩ := info_parts info5
  have hcut := cut_from (P := Try.prog) 24 5 .i64 Try.underlying24 hi0 1 hsz A0 l0.length c0 a1 h0 (by omega)
  have hr := Kd.C_drop (m := a1.toNat) hr0 (by omega) hc0
  obtain ⟨A1, hA1⟩ : ∃ A1_, A1_ = (if c0 = a1.toNat then A0 else A0.map (·.add (a1.toNat * 1))) := ⟨_, rfl⟩
  obtain ⟨c1, hc1⟩ : ∃ c1_, c1_ = c0 - a1.toNat := ⟨_, rfl⟩
  replace hr : Kd.C (Kd.int .u8) w A1 (l0.drop a1.toNat).length (l0.drop a1.toNat) := by rw [hA1]; exact hr
  rw [← hA1, ← hc1, show l0.length - a1.toNat = (l0.drop a1.toNat).length by rw [List.length_drop]] at hcut
  have hc2 : (l0.drop a1.toNat).length ≤ c1 := by rw [List.length_drop, hc1]; omega
  generalize l0.drop a1.toNat = y at *
  have HR := Aside0.mk hr; have HC := Aside0.mk hc2; clear hr hc2 hr0 hc0 hA1 hc1 hi0 hsz
  have hb0 : decide (a1 < 0) = false := decide_eq_false (by omega)
  have hb1 : decide ((l0.length : Int) ≤ a1) = false := decide_eq_false (by omega)
  have k0 := utf_fn0; have k1 := utf_fn1; have k2 := utf_fn2; have k3 := utf_fn3
  have E1 := Aside0.mk e1; clear e1; have E2 := Aside0.mk e2; clear e2; have E3 := Aside0.mk e3; clear e3; have E4 := Aside0.mk e4; clear e4
  go_enter Try.func23, Try.ntmps23
  go_wp2
  refine wp_loop_rounds 5 ?_
  rw [rounds_succ]
  go_wp2_with (go_at_call 45; (with_reducible refine (utf_part_one.calls 10 A1 c1 y p1 false _ HR.out HC.out E1.out).mono ?_); rintro e w' ⟨rfl, ⟨n1, rfl⟩⟩)
  rw [rounds_succ]
  go_wp2_with (go_at_call 46; (with_reducible refine (utf_way2 A1 c1 y p2 false _ ?s2 HC.out E2.out).mono ?_); (case s2 => exact Kd.C_drewN HR.out _); rintro e w2 ⟨rfl, hb2⟩; have HB2 := Aside0.mk (below_step (pw_below_drewN (Below.refl w.heap.size w) n1) hb2); clear hb2)
  rw [rounds_succ]
  go_wp2_with (go_at_call 47; (with_reducible refine (utf_way3 A1 c1 y p3 false _ ?s3 HC.out E3.out).mono ?_); (case s3 => exact Kd.C_below HR.out HB2.out); rintro e w3 ⟨rfl, hb3⟩; have HB3 := Aside0.mk (below_step HB2.out hb3); clear hb3)
  rw [rounds_succ]
  go_wp2_with (go_at_call 48; (with_reducible refine (utf_way4 A1 c1 y p4 true _ ?s4 HC.out E4.out).mono ?_); (case s4 => exact Kd.C_below HR.out HB3.out); rintro e w4 ⟨rfl, hb4⟩; have HB4 := Aside0.mk (below_step HB3.out hb4); clear hb4)
  go_ret2
  exact ⟨rfl, HB4.out⟩
set_option maxHeartbeats 1600000 in
set_option maxRecDepth 100000 in
theorem utf_Next.at5 (A0 : Option Addr) (c0 : Nat) (l0 : List Int) (a1 : Int) (w : World) (hr0 : Kd.C (Kd.int .u8) w A0 l0.length l0) (hc0 : l0.length ≤ c0) (h0 : 0 ≤ a1) (h1 : a1 < (l0.length : Int)) (p1 : Int) (p2 : Int) (p3 : Int) (p4 : Int) (e1 : utf_part_one.f 10 (l0.drop a1.toNat) = some (p1, false)) (e2 : utf_part_of.f 10 (l0.drop a1.toNat) 2 192 = some (p2, false)) (e3 : utf_part_of.f 10 (l0.drop a1.toNat) 3 224 = some (p3, false)) (e4 : utf_part_of.f 10 (l0.drop a1.toNat) 4 240 = some (p4, false)) :
    Calls Try.prog 23 #[.slice A0 l0.length c0, .int .i64 a1] w fun e w' => e = .returned (.tuple #[.int .i64 (-1), .int .i64 1]) ∧ Below w.heap.size w w' := by
  obtain ⟨i0, hi0, _, hsz, _⟩ := info_parts info5
  have hcut := cut_from (P := Try.prog) 24 5 .i64 Try.underlying24 hi0 1 hsz A0 l0.length c0 a1 h0 (by omega)
  have hr := Kd.C_drop (m := a1.toNat) hr0 (by omega) hc0
  obtain ⟨A1, hA1⟩ : ∃ A1_, A1_ = (if c0 = a1.toNat then A0 else A0.map (·.add (a1.toNat * 1))) := ⟨_, rfl⟩
  obtain ⟨c1, hc1⟩ : ∃ c1_, c1_ = c0 - a1.toNat := ⟨_, rfl⟩
  replace hr : Kd.C (Kd.int .u8) w A1 (l0.drop a1.toNat).length (l0.drop a1.toNat) := by rw [hA1]; exact hr
  rw [← hA1, ← hc1, show l0.length - a1.toNat = (l0.drop a1.toNat).length by rw [List.length_drop]] at hcut
  have hc2 : (l0.drop a1.toNat).length ≤ c1 := by rw [List.length_drop, hc1]; omega
  generalize l0.drop a1.toNat = y at *
  have HR := Aside0.mk hr; have HC := Aside0.mk hc2; clear hr hc2 hr0 hc0 hA1 hc1 hi0 hsz
  have hb0 : decide (a1 < 0) = false := decide_eq_false (by omega)
  have hb1 : decide ((l0.length : Int) ≤ a1) = false := decide_eq_false (by omega)
  have k0 := utf_fn0; have k1 := utf_fn1; have k2 := utf_fn2; have k3 := utf_fn3
  have E1 := Aside0.mk e1; clear e1; have E2 := Aside0.mk e2; clear e2; have E3 := Aside0.mk e3; clear e3; have E4 := Aside0.mk e4; clear e4
  go_enter Try.func23, Try.ntmps23
  go_wp2
  refine wp_loop_rounds 5 ?_
  rw [rounds_succ]
  go_wp2_with (go_at_call 45; (with_reducible refine (utf_part_one.calls 10 A1 c1 y p1 false _ HR.out HC.out E1.out).mono ?_); rintro e w' ⟨rfl, ⟨n1, rfl⟩⟩)
  rw [rounds_succ]
  go_wp2_with (go_at_call 46; (with_reducible refine (utf_way2 A1 c1 y p2 false _ ?s2 HC.out E2.out).mono ?_); (case s2 => exact Kd.C_drewN HR.out _); rintro e w2 ⟨rfl, hb2⟩; have HB2 := Aside0.mk (below_step (pw_below_drewN (Below.refl w.heap.size w) n1) hb2); clear hb2)
  rw [rounds_succ]
  go_wp2_with (go_at_call 47; (with_reducible refine (utf_way3 A1 c1 y p3 false _ ?s3 HC.out E3.out).mono ?_); (case s3 => exact Kd.C_below HR.out HB2.out); rintro e w3 ⟨rfl, hb3⟩; have HB3 := Aside0.mk (below_step HB2.out hb3); clear hb3)
  rw [rounds_succ]
  go_wp2_with (go_at_call 48; (with_reducible refine (utf_way4 A1 c1 y p4 false _ ?s4 HC.out E4.out).mono ?_); (case s4 => exact Kd.C_below HR.out HB3.out); rintro e w4 ⟨rfl, hb4⟩; have HB4 := Aside0.mk (below_step HB3.out hb4); clear hb4)
  rw [rounds_succ]
  go_wp2
  go_ret2
  exact ⟨rfl, HB4.out⟩
theorem utf_Next.calls (A0 : Option Addr) (c0 : Nat) (l0 : List Int) (a1 : Int) (r1 r2 : Int) (w : World) (hr0 : Kd.C (Kd.int .u8) w A0 l0.length l0) (hc0 : l0.length ≤ c0) (h : utf_Next.f l0 a1 = some (r1, r2)) :
    Calls Try.prog 23 #[.slice A0 l0.length c0, .int .i64 a1] w fun e w' => e = .returned (.tuple #[.int .i64 r1, .int .i64 r2]) ∧ Below w.heap.size w w' := by
  unfold utf_Next.f at h
  by_cases c1 : a1 < 0
  · rw [if_pos c1] at h
    simp only [Option.some.injEq, Prod.mk.injEq] at h
    obtain ⟨rfl, rfl⟩ := h
    clear hr0
    go_enter Try.func23, Try.ntmps23
    go_wp2
    go_ret2
    exact ⟨rfl, Below.refl _ _⟩
  · rw [if_neg c1] at h
    by_cases c2 : a1 ≥ (l0.length : Int)
    · rw [if_pos c2] at h
      simp only [Option.some.injEq, Prod.mk.injEq] at h
      obtain ⟨rfl, rfl⟩ := h
      clear hr0
      have hb0 : decide (a1 < 0) = false := decide_eq_false (by omega)
      have hb1 : decide ((l0.length : Int) ≤ a1) = true := decide_eq_true (by omega)
      go_enter Try.func23, Try.ntmps23
      go_wp2
      go_ret2
      exact ⟨rfl, Below.refl _ _⟩
    · rw [if_neg c2] at h
      obtain ⟨⟨p1, b1⟩, e1, h⟩ := Option.bind_eq_some_iff.mp h
      cases b1 with
      | true =>
        simp only [if_true, Option.some.injEq, Prod.mk.injEq] at h
        obtain ⟨rfl, rfl⟩ := h
        exact utf_Next.at1 A0 c0 l0 a1 w hr0 hc0 (by omega) (by omega) p1 e1
      | false =>
        simp only [Bool.false_eq_true, if_false] at h
        obtain ⟨⟨p2, b2⟩, e2, h⟩ := Option.bind_eq_some_iff.mp h
        cases b2 with
        | true =>
          simp only [if_true, Option.some.injEq, Prod.mk.injEq] at h
          obtain ⟨rfl, rfl⟩ := h
          exact utf_Next.at2 A0 c0 l0 a1 w hr0 hc0 (by omega) (by omega) p1 p2 e1 e2
        | false =>
          simp only [Bool.false_eq_true, if_false] at h
          obtain ⟨⟨p3, b3⟩, e3, h⟩ := Option.bind_eq_some_iff.mp h
          cases b3 with
          | true =>
            simp only [if_true, Option.some.injEq, Prod.mk.injEq] at h
            obtain ⟨rfl, rfl⟩ := h
            exact utf_Next.at3 A0 c0 l0 a1 w hr0 hc0 (by omega) (by omega) p1 p2 p3 e1 e2 e3
          | false =>
            simp only [Bool.false_eq_true, if_false] at h
            obtain ⟨⟨p4, b4⟩, e4, h⟩ := Option.bind_eq_some_iff.mp h
            cases b4 with
            | true =>
              simp only [if_true, Option.some.injEq, Prod.mk.injEq] at h
              obtain ⟨rfl, rfl⟩ := h
              exact utf_Next.at4 A0 c0 l0 a1 w hr0 hc0 (by omega) (by omega) p1 p2 p3 p4 e1 e2 e3 e4
            | false =>
              simp only [Bool.false_eq_true, if_false, Option.some.injEq, Prod.mk.injEq] at h
              obtain ⟨rfl, rfl⟩ := h
              exact utf_Next.at5 A0 c0 l0 a1 w hr0 hc0 (by omega) (by omega) p1 p2 p3 p4 e1 e2 e3 e4

/-! ### exegetelaw03_SeqsAll: function 7 -/
def exegetelaw03_SeqsAll.j0 : Nat → List Int → Int → Bool → Bool → Option (Bool)
  | 0, _, _, _, _ => none
  | k + 1, x0, x1, x5, x16 => if x16 = true then (some x5) else ((seqs_Of.f k (([(⟨0, 1114111⟩ : S35)] : List (S35)))).bind fun t286 => ((utf_Next.f x0 x1).bind fun bt289 => (if bt289.1 < 0 then (if (t286.length : Int) = 9 then ((seqs_Match.f k t286 x0 x1).bind fun t291 => (some (t291 == 0))) else (some false)) else (if (t286.length : Int) = 9 then ((seqs_Match.f k t286 x0 x1).bind fun t292 => (some (t292 == bt289.2))) else (some false)))))
def exegetelaw03_SeqsAll.f (k : Nat) (l0 : List Int) (a1 : Int) : Option (Bool) := (exegetelaw03_awake.f k).bind fun t282 => (if t282 = true then (exegetelaw03_SeqsAll.j0 k l0 a1 t282 (decide ((l0.length : Int) > 100))) else (exegetelaw03_SeqsAll.j0 k l0 a1 t282 true))
theorem exegetelaw03_SeqsAll.mono_l : ∀ k, (∀ y0 y1 y2 y3, LeO (exegetelaw03_SeqsAll.j0 k y0 y1 y2 y3) (exegetelaw03_SeqsAll.j0 (k + 1) y0 y1 y2 y3))
  | 0 => fun _ _ _ _ r h => by simp [exegetelaw03_SeqsAll.j0] at h
  | k + 1 => by
    have ih0 := exegetelaw03_SeqsAll.mono_l k
    · intro y0 y1 y2 y3
      unfold exegetelaw03_SeqsAll.j0
      repeat' first
      | (with_reducible exact ih0 _ _ _ _)
      | (with_reducible exact exegetelaw03_awake.mono _)
      | (with_reducible exact seqs_Match.mono _ _ _ _)
      | (with_reducible exact seqs_Of.mono _ _)
      | (with_reducible exact LeO.refl _)
      | (with_reducible exact LeO.none _)
      | (with_reducible refine LeO.ite ?_ ?_)
      | (with_reducible refine LeO.bind ?_ (fun _ => ?_))
      | exact ih0 _ _ _ _
      | exact exegetelaw03_awake.mono _
      | exact seqs_Match.mono _ _ _ _
      | exact seqs_Of.mono _ _
      | exact LeO.none _
      | refine LeO.ite ?_ ?_
      | refine LeO.bind ?_ (fun _ => ?_)
theorem exegetelaw03_SeqsAll.mono : ∀ a0 a1 k, LeO (exegetelaw03_SeqsAll.f k a0 a1) (exegetelaw03_SeqsAll.f (k + 1) a0 a1) := by
  intro a0 a1 k
  have ih0 := exegetelaw03_SeqsAll.mono_l k
  unfold exegetelaw03_SeqsAll.f
  repeat' first
      | (with_reducible exact ih0 _ _ _ _)
      | (with_reducible exact exegetelaw03_awake.mono _)
      | (with_reducible exact seqs_Match.mono _ _ _ _)
      | (with_reducible exact seqs_Of.mono _ _)
      | (with_reducible exact LeO.refl _)
      | (with_reducible exact LeO.none _)
      | (with_reducible refine LeO.ite ?_ ?_)
      | (with_reducible refine LeO.bind ?_ (fun _ => ?_))
      | exact ih0 _ _ _ _
      | exact exegetelaw03_awake.mono _
      | exact seqs_Match.mono _ _ _ _
      | exact seqs_Of.mono _ _
      | exact LeO.none _
      | refine LeO.ite ?_ ?_
      | refine LeO.bind ?_ (fun _ => ?_)
set_option maxHeartbeats 8000000 in
set_option maxRecDepth 100000 in
theorem exegetelaw03_SeqsAll.calls (k : Nat) (A0 : Option Addr) (c0 : Nat) (l0 : List Int) (a1 : Int) (r : Bool) (w : World) (hr0 : Kd.C (Kd.int .u8) w A0 l0.length l0) (hc0 : l0.length ≤ c0) (h : exegetelaw03_SeqsAll.f k l0 a1 = some r) :
    Calls Try.prog 7 #[.slice A0 l0.length c0, .int .i64 a1] w fun e w' => e = .returned (.bool r) ∧ Below w.heap.size w w' := by
  have hu35 := Try.underlying35
  have HR0 := Aside0.mk hr0
  have HC0 := Aside0.mk hc0
  clear hr0 hc0
  have HB := Aside0.mk (Below.refl w.heap.size w)
  have H : ((exegetelaw03_awake.f k).bind fun t282 => (if t282 = true then (exegetelaw03_SeqsAll.j0 k l0 a1 t282 (decide ((l0.length : Int) > 100))) else (exegetelaw03_SeqsAll.j0 k l0 a1 t282 true))) = some r := h
  clear h
  replace H := Option.bind_eq_some_iff.mp H
  obtain ⟨t282, A30, H⟩ := H
  replace H : (if t282 = true then (exegetelaw03_SeqsAll.j0 k l0 a1 t282 (decide ((l0.length : Int) > 100))) else (exegetelaw03_SeqsAll.j0 k l0 a1 t282 true)) = some r := H
  have A3 := Aside0.mk A30
  clear A30
  have HC4 := Aside0.mk H
  clear H
  go_enter Try.func7, Try.ntmps7
  go_upto_region 2 with (first | ((with_reducible refine gate_callee (f := 14) rfl ?_); refine goesL_ (some 9) rfl rfl Try.func14 (by kernel_rfl) rfl #[] rfl (by (try simp only [List.map_toArray, List.map_cons, List.map_nil]); first | done | rfl | (simp only [List.length_drop, List.length_take]; rfl)) ?_; (with_reducible refine (exegetelaw03_awake.calls k  t282 _ A3.out).mono ?_); rintro e w5 ⟨rfl, hb⟩; refine ⟨_, rfl, ?_⟩; have n0_ := Aside0.mk (below_step (by repeat (first | (with_reducible first | exact HB.out | apply below_alloc | apply pw_below_drewN | apply below_drew1) | exact HB.out)) hb); clear HB; have HB := n0_; clear n0_; (try clear hb); (try clear hb2); (try clear hk); (try clear hi)))
  (try simp only [Act.put, List.setIfInBounds_toArray, List.set_cons_zero, List.set_cons_succ])
  go_cut [16] (fun v16 wc => ∃ (kq : Nat) (x16_3 : Bool), v16 = .bool x16_3 ∧ Aside0 (exegetelaw03_SeqsAll.j0 kq l0 a1 t282 x16_3 = some r) ∧ Aside0 (kq ≤ k) ∧ Aside0 (Below w.heap.size w wc))
  case first =>
    have H := HC4.out
    clear HC4
    by_cases c6 : t282 = true
    · subst c6
      have H1 : (exegetelaw03_SeqsAll.j0 k l0 a1 true (decide ((l0.length : Int) > 100))) = some r := by rw [if_pos rfl] at H; exact H
      clear H
      have H := H1
      clear H1
      have H' := Aside0.mk H
      clear H
      go_wp2
      go_meet
      case rel => exact ⟨_, (decide ((l0.length : Int) > 100)), (by first | rfl | (simp; done) | (simp [*]; done) | (simp [*, bne]; done)), H', ⟨by first | omega | exact Nat.le_refl _⟩, ⟨by repeat (first | (with_reducible first | exact HB.out | apply below_alloc | apply pw_below_drewN | apply below_drew1) | exact HB.out)⟩⟩
    · replace c6 := Bool.eq_false_iff.mpr c6
      subst c6
      have H1 : (exegetelaw03_SeqsAll.j0 k l0 a1 false true) = some r := by rw [if_neg (show ¬ (false = true) by decide)] at H; exact H
      clear H
      have H := H1
      clear H1
      have H' := Aside0.mk H
      clear H
      go_wp2
      go_meet
      case rel => exact ⟨_, (true), (by first | rfl | (simp; done) | (simp [*]; done) | (simp [*, bne]; done)), H', ⟨by first | omega | exact Nat.le_refl _⟩, ⟨by repeat (first | (with_reducible first | exact HB.out | apply below_alloc | apply pw_below_drewN | apply below_drew1) | exact HB.out)⟩⟩
  case rest =>
    clear HC4
    try clear c1
    try clear p2
    try clear c6
    obtain ⟨kq, x16_3, rfl, HA, HJ3, HB⟩ := hcut
    cases kq with
    | zero => exact absurd HA.out (by simp [exegetelaw03_SeqsAll.j0])
    | succ kj3 =>
      have H := HA.out
      clear HA
      simp only [exegetelaw03_SeqsAll.j0] at H
      by_cases c7 : x16_3 = true
      · subst c7
        have H1 : (some t282) = some r := by rw [if_pos rfl] at H; exact H
        clear H
        have H := H1
        clear H1
        obtain rfl := Option.some.inj H
        go_wp2
        go_ret
        exact ⟨by first | rfl | (simp [errW_none, errW_some] <;> rfl) | (simp [*, errW_none, errW_some] <;> rfl), by repeat (first | (with_reducible first | exact HB.out | apply below_alloc | apply pw_below_drewN | apply below_drew1) | exact HB.out)⟩
      · replace c7 := Bool.eq_false_iff.mpr c7
        subst c7
        have H1 : ((seqs_Of.f kj3 (([(⟨0, 1114111⟩ : S35)] : List (S35)))).bind fun t286 => ((utf_Next.f l0 a1).bind fun bt289 => (if bt289.1 < 0 then (if (t286.length : Int) = 9 then ((seqs_Match.f kj3 t286 l0 a1).bind fun t291 => (some (t291 == 0))) else (some false)) else (if (t286.length : Int) = 9 then ((seqs_Match.f kj3 t286 l0 a1).bind fun t292 => (some (t292 == bt289.2))) else (some false))))) = some r := by rw [if_neg (show ¬ (false = true) by decide)] at H; exact H
        clear H
        have H := H1
        clear H1
        obtain ⟨y283, hy283⟩ : ∃ y_ : List (S35), y_ = (([(⟨0, 1114111⟩ : S35)] : List (S35))) := ⟨_, rfl⟩
        replace H : ((seqs_Of.f kj3 y283).bind fun t286 => ((utf_Next.f l0 a1).bind fun bt289 => (if bt289.1 < 0 then (if (t286.length : Int) = 9 then ((seqs_Match.f kj3 t286 l0 a1).bind fun t291 => (some (t291 == 0))) else (some false)) else (if (t286.length : Int) = 9 then ((seqs_Match.f kj3 t286 l0 a1).bind fun t292 => (some (t292 == bt289.2))) else (some false))))) = some r := by first | (rw [hy283]; with_reducible exact H) | (have H2_ := (Option.bind_some _ _).symm.trans H; rw [hy283]; with_reducible exact H2_) | (have H2_ := (Option.bind_some _ _).symm.trans H; with_reducible exact H2_) | with_reducible exact H | (rw [hy283]; exact H) | exact H
        have Ny283 := Aside0.mk hy283
        clear hy283
        replace H := Option.bind_eq_some_iff.mp H
        obtain ⟨t286, A80, H⟩ := H
        replace H : ((utf_Next.f l0 a1).bind fun bt289 => (if bt289.1 < 0 then (if (t286.length : Int) = 9 then ((seqs_Match.f kj3 t286 l0 a1).bind fun t291 => (some (t291 == 0))) else (some false)) else (if (t286.length : Int) = 9 then ((seqs_Match.f kj3 t286 l0 a1).bind fun t292 => (some (t292 == bt289.2))) else (some false)))) = some r := H
        have A8 := Aside0.mk A80
        clear A80
        replace H := Option.bind_eq_some_iff.mp H
        obtain ⟨⟨t289, t290⟩, A90, H⟩ := H
        replace H : (if t289 < 0 then (if (t286.length : Int) = 9 then ((seqs_Match.f kj3 t286 l0 a1).bind fun t291 => (some (t291 == 0))) else (some false)) else (if (t286.length : Int) = 9 then ((seqs_Match.f kj3 t286 l0 a1).bind fun t292 => (some (t292 == t290))) else (some false))) = some r := H
        have A9 := Aside0.mk A90
        clear A90
        by_cases c10 : t289 < 0
        · rw [if_pos c10] at H
          have c10b0 : decide (t289 < 0) = true := decide_eq_true c10
          clear c10
          by_cases c11 : (t286.length : Int) = 9
          · rw [if_pos c11] at H
            have c11b0 : ((t286.length : Int) == 9) = true := beq_iff_eq.mpr c11
            have c11b1 : ((t286.length : Int) != 9) = false := bne_eq_false_iff_eq.mpr c11
            clear c11
            replace H := Option.bind_eq_some_iff.mp H
            obtain ⟨t291, A120, H⟩ := H
            replace H : (some (t291 == 0)) = some r := H
            have A12 := Aside0.mk A120
            clear A120
            obtain rfl := Option.some.inj H
            go_wp2_with (first | ((with_reducible refine gate_dst (N := 19) rfl ?_); (try (refine gate_guard (by rfl) ?_; dsimp only)); refine Kd.R_lit k35 _ 35 ?hg (N := 19) ?hd (xs := ([(⟨0, 1114111⟩ : S35)] : List (S35))) (inner := [.int .i64 0, .int .i64 1114111]) (ok := fun _ => True) (okp := fun _ => True) ?hr ?hp (fun _ hk => hk) trivial (Below.refl _ _) (Nat.le_refl _) (by simp) ?_; (case hd => rfl); (case hg => rfl); (case hr => first | (go_simp; done) | (go_simp; rfl)); (case hp => exact (Reps.c2 (show Kd.M k35 _ _ _ (⟨0, 1114111⟩ : S35) [.int .i64 0, .int .i64 1114111] from (k35_mkM _ _ _ (⟨0, 1114111⟩ : S35) )) (Reps.none _ _))); intro v284 w13 ho14 hb hg_ hnew_; clear hg_ hnew_; (first | rw [← Ny283.out] at ho14 | (simp only [Int.reduceToNat] at ho14; rw [← Ny283.out] at ho14)); have n0_ := Aside0.mk (Kd.R_lower ho14 (below_size (by repeat (first | (with_reducible first | exact HB.out | apply below_alloc | apply pw_below_drewN | apply below_drew1) | exact HB.out)))); have n1_ := Aside0.mk (below_step (by repeat (first | (with_reducible first | exact HB.out | apply below_alloc | apply pw_below_drewN | apply below_drew1) | exact HB.out)) hb); clear HB; have HO285 := n0_; have HB := n1_; clear n0_ n1_; clear hb ho14; obtain ⟨Ao15, co15, eo15⟩ := Kd.R_slice HO285.out; subst eo15) | ((with_reducible refine gate_callee (f := 16) rfl ?_); refine goesL_ (some 20) rfl rfl Try.func16 (by kernel_rfl) rfl #[.slice Ao15 y283.length co15] rfl (by (try simp only [List.map_toArray, List.map_cons, List.map_nil]); first | done | rfl | (simp only [List.length_drop, List.length_take]; rfl)) ?_; (with_reducible refine (seqs_Of.calls kj3 _ _ y283 t286 _ ?side1 ?side2 A8.out).mono ?_); (case side1 => repeat (first | exact (Kd.R_reads' HO285.out).2.2 | (with_reducible refine Kd.C_alloc ?_ _) | (with_reducible refine Kd.C_drewN ?_ _) | (with_reducible refine Kd.C_drew ?_))); (case side2 => exact (Kd.R_reads' HO285.out).2.1); rintro e w16 ⟨v287, rfl, ho0, hb⟩; refine ⟨_, rfl, ?_⟩; have n0_ := Aside0.mk (Kd.R_below (by (with_reducible repeat (first | apply Kd.R_alloc | apply Kd.R_drewN | apply Kd.R_drew)); exact HO285.out) hb); have n1_ := Aside0.mk (Kd.S_lower (Kd.S_new' ho0 (Kd.R_lt (by (with_reducible repeat (first | apply Kd.R_alloc | apply Kd.R_drewN | apply Kd.R_drew)); exact HO285.out))) (below_size (by repeat (first | (with_reducible first | exact HB.out | apply below_alloc | apply pw_below_drewN | apply below_drew1) | exact HB.out)))); have n2_ := Aside0.mk (below_step (by repeat (first | (with_reducible first | exact HB.out | apply below_alloc | apply pw_below_drewN | apply below_drew1) | exact HB.out)) hb); clear HO285; clear HB; have HO285 := n0_; have HO288 := n1_; have HB := n2_; clear n0_ n1_ n2_; (try clear hb); (try clear hb2); (try clear hk); (try clear hi); (try clear ho0)) | ((with_reducible refine gate_callee (f := 23) rfl ?_); refine goesL_ (some 24) rfl rfl Try.func23 (by kernel_rfl) rfl #[.slice A0 l0.length c0, .int .i64 a1] rfl (by (try simp only [List.map_toArray, List.map_cons, List.map_nil]); first | done | rfl | (simp only [List.length_drop, List.length_take]; rfl)) ?_; (with_reducible refine (utf_Next.calls _ _ l0 a1 t289 t290 _ ?side1 ?side2 A9.out).mono ?_); (case side1 => repeat (first | exact (Kd.C_below HR0.out HB.out) | (with_reducible refine Kd.C_alloc ?_ _) | (with_reducible refine Kd.C_drewN ?_ _) | (with_reducible refine Kd.C_drew ?_))); (case side2 => exact HC0.out); rintro e w17 ⟨rfl, hb⟩; refine ⟨_, rfl, ?_⟩; have n0_ := Aside0.mk (Kd.R_below (by (with_reducible repeat (first | apply Kd.R_alloc | apply Kd.R_drewN | apply Kd.R_drew)); exact HO285.out) hb); have n1_ := Aside0.mk (Kd.S_below (by (with_reducible repeat (first | apply Kd.S_alloc | apply Kd.S_drewN | apply Kd.S_drew)); exact HO288.out) hb); have n2_ := Aside0.mk (below_step (by repeat (first | (with_reducible first | exact HB.out | apply below_alloc | apply pw_below_drewN | apply below_drew1) | exact HB.out)) hb); clear HO285; clear HO288; clear HB; have HO285 := n0_; have HO288 := n1_; have HB := n2_; clear n0_ n1_ n2_; (try clear hb); (try clear hb2); (try clear hk); (try clear hi); obtain ⟨Ao18, co18, eo18⟩ := Kd.S_slice HO288.out; subst eo18) | (go_at_call 17; (with_reducible refine (seqs_Match.calls kj3 _ _ t286 _ _ l0 a1 t291 _ ?side1 ?side2 ?side3 ?side4 A12.out).mono ?_); (case side1 => repeat (first | exact (Kd.S_reads' HO288.out).2.2 | (with_reducible refine Kd.C_alloc ?_ _) | (with_reducible refine Kd.C_drewN ?_ _) | (with_reducible refine Kd.C_drew ?_))); (case side2 => exact (Kd.S_reads' HO288.out).2.1); (case side3 => repeat (first | exact (Kd.C_below HR0.out HB.out) | (with_reducible refine Kd.C_alloc ?_ _) | (with_reducible refine Kd.C_drewN ?_ _) | (with_reducible refine Kd.C_drew ?_))); (case side4 => exact HC0.out); rintro e w19 ⟨rfl, hb⟩; have n0_ := Aside0.mk (Kd.R_below (by (with_reducible repeat (first | apply Kd.R_alloc | apply Kd.R_drewN | apply Kd.R_drew)); exact HO285.out) hb); have n1_ := Aside0.mk (Kd.S_below (by (with_reducible repeat (first | apply Kd.S_alloc | apply Kd.S_drewN | apply Kd.S_drew)); exact HO288.out) hb); have n2_ := Aside0.mk (below_step (by repeat (first | (with_reducible first | exact HB.out | apply below_alloc | apply pw_below_drewN | apply below_drew1) | exact HB.out)) hb); clear HO285; clear HO288; clear HB; have HO285 := n0_; have HO288 := n1_; have HB := n2_; clear n0_ n1_ n2_; (try clear hb); (try clear hb2); (try clear hk); (try clear hi)))
            go_ret
            exact ⟨by first | rfl | (simp [errW_none, errW_some] <;> rfl) | (simp [*, errW_none, errW_some] <;> rfl), by repeat (first | (with_reducible first | exact HB.out | apply below_alloc | apply pw_below_drewN | apply below_drew1) | exact HB.out)⟩
          · rw [if_neg c11] at H
            have c11b0 : ((t286.length : Int) == 9) = false := beq_eq_false_iff_ne.mpr c11
            have c11b1 : ((t286.length : Int) != 9) = true := bne_iff_ne.mpr c11
            obtain rfl := Option.some.inj H
            go_wp2_with (first | ((with_reducible refine gate_dst (N := 19) rfl ?_); (try (refine gate_guard (by rfl) ?_; dsimp only)); refine Kd.R_lit k35 _ 35 ?hg (N := 19) ?hd (xs := ([(⟨0, 1114111⟩ : S35)] : List (S35))) (inner := [.int .i64 0, .int .i64 1114111]) (ok := fun _ => True) (okp := fun _ => True) ?hr ?hp (fun _ hk => hk) trivial (Below.refl _ _) (Nat.le_refl _) (by simp) ?_; (case hd => rfl); (case hg => rfl); (case hr => first | (go_simp; done) | (go_simp; rfl)); (case hp => exact (Reps.c2 (show Kd.M k35 _ _ _ (⟨0, 1114111⟩ : S35) [.int .i64 0, .int .i64 1114111] from (k35_mkM _ _ _ (⟨0, 1114111⟩ : S35) )) (Reps.none _ _))); intro v284 w20 ho21 hb hg_ hnew_; clear hg_ hnew_; (first | rw [← Ny283.out] at ho21 | (simp only [Int.reduceToNat] at ho21; rw [← Ny283.out] at ho21)); have n0_ := Aside0.mk (Kd.R_lower ho21 (below_size (by repeat (first | (with_reducible first | exact HB.out | apply below_alloc | apply pw_below_drewN | apply below_drew1) | exact HB.out)))); have n1_ := Aside0.mk (below_step (by repeat (first | (with_reducible first | exact HB.out | apply below_alloc | apply pw_below_drewN | apply below_drew1) | exact HB.out)) hb); clear HB; have HO285 := n0_; have HB := n1_; clear n0_ n1_; clear hb ho21; obtain ⟨Ao22, co22, eo22⟩ := Kd.R_slice HO285.out; subst eo22) | ((with_reducible refine gate_callee (f := 16) rfl ?_); refine goesL_ (some 20) rfl rfl Try.func16 (by kernel_rfl) rfl #[.slice Ao22 y283.length co22] rfl (by (try simp only [List.map_toArray, List.map_cons, List.map_nil]); first | done | rfl | (simp only [List.length_drop, List.length_take]; rfl)) ?_; (with_reducible refine (seqs_Of.calls kj3 _ _ y283 t286 _ ?side1 ?side2 A8.out).mono ?_); (case side1 => repeat (first | exact (Kd.R_reads' HO285.out).2.2 | (with_reducible refine Kd.C_alloc ?_ _) | (with_reducible refine Kd.C_drewN ?_ _) | (with_reducible refine Kd.C_drew ?_))); (case side2 => exact (Kd.R_reads' HO285.out).2.1); rintro e w23 ⟨v287, rfl, ho0, hb⟩; refine ⟨_, rfl, ?_⟩; have n0_ := Aside0.mk (Kd.R_below (by (with_reducible repeat (first | apply Kd.R_alloc | apply Kd.R_drewN | apply Kd.R_drew)); exact HO285.out) hb); have n1_ := Aside0.mk (Kd.S_lower (Kd.S_new' ho0 (Kd.R_lt (by (with_reducible repeat (first | apply Kd.R_alloc | apply Kd.R_drewN | apply Kd.R_drew)); exact HO285.out))) (below_size (by repeat (first | (with_reducible first | exact HB.out | apply below_alloc | apply pw_below_drewN | apply below_drew1) | exact HB.out)))); have n2_ := Aside0.mk (below_step (by repeat (first | (with_reducible first | exact HB.out | apply below_alloc | apply pw_below_drewN | apply below_drew1) | exact HB.out)) hb); clear HO285; clear HB; have HO285 := n0_; have HO288 := n1_; have HB := n2_; clear n0_ n1_ n2_; (try clear hb); (try clear hb2); (try clear hk); (try clear hi); (try clear ho0)) | ((with_reducible refine gate_callee (f := 23) rfl ?_); refine goesL_ (some 24) rfl rfl Try.func23 (by kernel_rfl) rfl #[.slice A0 l0.length c0, .int .i64 a1] rfl (by (try simp only [List.map_toArray, List.map_cons, List.map_nil]); first | done | rfl | (simp only [List.length_drop, List.length_take]; rfl)) ?_; (with_reducible refine (utf_Next.calls _ _ l0 a1 t289 t290 _ ?side1 ?side2 A9.out).mono ?_); (case side1 => repeat (first | exact (Kd.C_below HR0.out HB.out) | (with_reducible refine Kd.C_alloc ?_ _) | (with_reducible refine Kd.C_drewN ?_ _) | (with_reducible refine Kd.C_drew ?_))); (case side2 => exact HC0.out); rintro e w24 ⟨rfl, hb⟩; refine ⟨_, rfl, ?_⟩; have n0_ := Aside0.mk (Kd.R_below (by (with_reducible repeat (first | apply Kd.R_alloc | apply Kd.R_drewN | apply Kd.R_drew)); exact HO285.out) hb); have n1_ := Aside0.mk (Kd.S_below (by (with_reducible repeat (first | apply Kd.S_alloc | apply Kd.S_drewN | apply Kd.S_drew)); exact HO288.out) hb); have n2_ := Aside0.mk (below_step (by repeat (first | (with_reducible first | exact HB.out | apply below_alloc | apply pw_below_drewN | apply below_drew1) | exact HB.out)) hb); clear HO285; clear HO288; clear HB; have HO285 := n0_; have HO288 := n1_; have HB := n2_; clear n0_ n1_ n2_; (try clear hb); (try clear hb2); (try clear hk); (try clear hi); obtain ⟨Ao25, co25, eo25⟩ := Kd.S_slice HO288.out; subst eo25))
            go_ret
            exact ⟨by first | rfl | (simp [errW_none, errW_some] <;> rfl) | (simp [*, errW_none, errW_some] <;> rfl), by repeat (first | (with_reducible first | exact HB.out | apply below_alloc | apply pw_below_drewN | apply below_drew1) | exact HB.out)⟩
        · rw [if_neg c10] at H
          have c10b0 : decide (t289 < 0) = false := decide_eq_false c10
          clear c10
          by_cases c26 : (t286.length : Int) = 9
          · rw [if_pos c26] at H
            have c26b0 : ((t286.length : Int) == 9) = true := beq_iff_eq.mpr c26
            have c26b1 : ((t286.length : Int) != 9) = false := bne_eq_false_iff_eq.mpr c26
            clear c26
            replace H := Option.bind_eq_some_iff.mp H
            obtain ⟨t292, A270, H⟩ := H
            replace H : (some (t292 == t290)) = some r := H
            have A27 := Aside0.mk A270
            clear A270
            (try (have e_A27_A12 := Option.some.inj (A27.out.symm.trans A12.out)))
            obtain rfl := Option.some.inj H
            go_wp2_with (first | ((with_reducible refine gate_dst (N := 19) rfl ?_); (try (refine gate_guard (by rfl) ?_; dsimp only)); refine Kd.R_lit k35 _ 35 ?hg (N := 19) ?hd (xs := ([(⟨0, 1114111⟩ : S35)] : List (S35))) (inner := [.int .i64 0, .int .i64 1114111]) (ok := fun _ => True) (okp := fun _ => True) ?hr ?hp (fun _ hk => hk) trivial (Below.refl _ _) (Nat.le_refl _) (by simp) ?_; (case hd => rfl); (case hg => rfl); (case hr => first | (go_simp; done) | (go_simp; rfl)); (case hp => exact (Reps.c2 (show Kd.M k35 _ _ _ (⟨0, 1114111⟩ : S35) [.int .i64 0, .int .i64 1114111] from (k35_mkM _ _ _ (⟨0, 1114111⟩ : S35) )) (Reps.none _ _))); intro v284 w28 ho29 hb hg_ hnew_; clear hg_ hnew_; (first | rw [← Ny283.out] at ho29 | (simp only [Int.reduceToNat] at ho29; rw [← Ny283.out] at ho29)); have n0_ := Aside0.mk (Kd.R_lower ho29 (below_size (by repeat (first | (with_reducible first | exact HB.out | apply below_alloc | apply pw_below_drewN | apply below_drew1) | exact HB.out)))); have n1_ := Aside0.mk (below_step (by repeat (first | (with_reducible first | exact HB.out | apply below_alloc | apply pw_below_drewN | apply below_drew1) | exact HB.out)) hb); clear HB; have HO285 := n0_; have HB := n1_; clear n0_ n1_; clear hb ho29; obtain ⟨Ao30, co30, eo30⟩ := Kd.R_slice HO285.out; subst eo30) | ((with_reducible refine gate_callee (f := 16) rfl ?_); refine goesL_ (some 20) rfl rfl Try.func16 (by kernel_rfl) rfl #[.slice Ao30 y283.length co30] rfl (by (try simp only [List.map_toArray, List.map_cons, List.map_nil]); first | done | rfl | (simp only [List.length_drop, List.length_take]; rfl)) ?_; (with_reducible refine (seqs_Of.calls kj3 _ _ y283 t286 _ ?side1 ?side2 A8.out).mono ?_); (case side1 => repeat (first | exact (Kd.R_reads' HO285.out).2.2 | (with_reducible refine Kd.C_alloc ?_ _) | (with_reducible refine Kd.C_drewN ?_ _) | (with_reducible refine Kd.C_drew ?_))); (case side2 => exact (Kd.R_reads' HO285.out).2.1); rintro e w31 ⟨v287, rfl, ho0, hb⟩; refine ⟨_, rfl, ?_⟩; have n0_ := Aside0.mk (Kd.R_below (by (with_reducible repeat (first | apply Kd.R_alloc | apply Kd.R_drewN | apply Kd.R_drew)); exact HO285.out) hb); have n1_ := Aside0.mk (Kd.S_lower (Kd.S_new' ho0 (Kd.R_lt (by (with_reducible repeat (first | apply Kd.R_alloc | apply Kd.R_drewN | apply Kd.R_drew)); exact HO285.out))) (below_size (by repeat (first | (with_reducible first | exact HB.out | apply below_alloc | apply pw_below_drewN | apply below_drew1) | exact HB.out)))); have n2_ := Aside0.mk (below_step (by repeat (first | (with_reducible first | exact HB.out | apply below_alloc | apply pw_below_drewN | apply below_drew1) | exact HB.out)) hb); clear HO285; clear HB; have HO285 := n0_; have HO288 := n1_; have HB := n2_; clear n0_ n1_ n2_; (try clear hb); (try clear hb2); (try clear hk); (try clear hi); (try clear ho0)) | ((with_reducible refine gate_callee (f := 23) rfl ?_); refine goesL_ (some 24) rfl rfl Try.func23 (by kernel_rfl) rfl #[.slice A0 l0.length c0, .int .i64 a1] rfl (by (try simp only [List.map_toArray, List.map_cons, List.map_nil]); first | done | rfl | (simp only [List.length_drop, List.length_take]; rfl)) ?_; (with_reducible refine (utf_Next.calls _ _ l0 a1 t289 t290 _ ?side1 ?side2 A9.out).mono ?_); (case side1 => repeat (first | exact (Kd.C_below HR0.out HB.out) | (with_reducible refine Kd.C_alloc ?_ _) | (with_reducible refine Kd.C_drewN ?_ _) | (with_reducible refine Kd.C_drew ?_))); (case side2 => exact HC0.out); rintro e w32 ⟨rfl, hb⟩; refine ⟨_, rfl, ?_⟩; have n0_ := Aside0.mk (Kd.R_below (by (with_reducible repeat (first | apply Kd.R_alloc | apply Kd.R_drewN | apply Kd.R_drew)); exact HO285.out) hb); have n1_ := Aside0.mk (Kd.S_below (by (with_reducible repeat (first | apply Kd.S_alloc | apply Kd.S_drewN | apply Kd.S_drew)); exact HO288.out) hb); have n2_ := Aside0.mk (below_step (by repeat (first | (with_reducible first | exact HB.out | apply below_alloc | apply pw_below_drewN | apply below_drew1) | exact HB.out)) hb); clear HO285; clear HO288; clear HB; have HO285 := n0_; have HO288 := n1_; have HB := n2_; clear n0_ n1_ n2_; (try clear hb); (try clear hb2); (try clear hk); (try clear hi); obtain ⟨Ao33, co33, eo33⟩ := Kd.S_slice HO288.out; subst eo33) | (go_at_call 17; (with_reducible refine (seqs_Match.calls kj3 _ _ t286 _ _ l0 a1 t292 _ ?side1 ?side2 ?side3 ?side4 A27.out).mono ?_); (case side1 => repeat (first | exact (Kd.S_reads' HO288.out).2.2 | (with_reducible refine Kd.C_alloc ?_ _) | (with_reducible refine Kd.C_drewN ?_ _) | (with_reducible refine Kd.C_drew ?_))); (case side2 => exact (Kd.S_reads' HO288.out).2.1); (case side3 => repeat (first | exact (Kd.C_below HR0.out HB.out) | (with_reducible refine Kd.C_alloc ?_ _) | (with_reducible refine Kd.C_drewN ?_ _) | (with_reducible refine Kd.C_drew ?_))); (case side4 => exact HC0.out); rintro e w34 ⟨rfl, hb⟩; have n0_ := Aside0.mk (Kd.R_below (by (with_reducible repeat (first | apply Kd.R_alloc | apply Kd.R_drewN | apply Kd.R_drew)); exact HO285.out) hb); have n1_ := Aside0.mk (Kd.S_below (by (with_reducible repeat (first | apply Kd.S_alloc | apply Kd.S_drewN | apply Kd.S_drew)); exact HO288.out) hb); have n2_ := Aside0.mk (below_step (by repeat (first | (with_reducible first | exact HB.out | apply below_alloc | apply pw_below_drewN | apply below_drew1) | exact HB.out)) hb); clear HO285; clear HO288; clear HB; have HO285 := n0_; have HO288 := n1_; have HB := n2_; clear n0_ n1_ n2_; (try clear hb); (try clear hb2); (try clear hk); (try clear hi)))
            go_ret
            exact ⟨by first | rfl | (simp [errW_none, errW_some] <;> rfl) | (simp [*, errW_none, errW_some] <;> rfl), by repeat (first | (with_reducible first | exact HB.out | apply below_alloc | apply pw_below_drewN | apply below_drew1) | exact HB.out)⟩
          · rw [if_neg c26] at H
            have c26b0 : ((t286.length : Int) == 9) = false := beq_eq_false_iff_ne.mpr c26
            have c26b1 : ((t286.length : Int) != 9) = true := bne_iff_ne.mpr c26
            obtain rfl := Option.some.inj H
            go_wp2_with (first | ((with_reducible refine gate_dst (N := 19) rfl ?_); (try (refine gate_guard (by rfl) ?_; dsimp only)); refine Kd.R_lit k35 _ 35 ?hg (N := 19) ?hd (xs := ([(⟨0, 1114111⟩ : S35)] : List (S35))) (inner := [.int .i64 0, .int .i64 1114111]) (ok := fun _ => True) (okp := fun _ => True) ?hr ?hp (fun _ hk => hk) trivial (Below.refl _ _) (Nat.le_refl _) (by simp) ?_; (case hd => rfl); (case hg => rfl); (case hr => first | (go_simp; done) | (go_simp; rfl)); (case hp => exact (Reps.c2 (show Kd.M k35 _ _ _ (⟨0, 1114111⟩ : S35) [.int .i64 0, .int .i64 1114111] from (k35_mkM _ _ _ (⟨0, 1114111⟩ : S35) )) (Reps.none _ _))); intro v284 w35 ho36 hb hg_ hnew_; clear hg_ hnew_; (first | rw [← Ny283.out] at ho36 | (simp only [Int.reduceToNat] at ho36; rw [← Ny283.out] at ho36)); have n0_ := Aside0.mk (Kd.R_lower ho36 (below_size (by repeat (first | (with_reducible first | exact HB.out | apply below_alloc | apply pw_below_drewN | apply below_drew1) | exact HB.out)))); have n1_ := Aside0.mk (below_step (by repeat (first | (with_reducible first | exact HB.out | apply below_alloc | apply pw_below_drewN | apply below_drew1) | exact HB.out)) hb); clear HB; have HO285 := n0_; have HB := n1_; clear n0_ n1_; clear hb ho36; obtain ⟨Ao37, co37, eo37⟩ := Kd.R_slice HO285.out; subst eo37) | ((with_reducible refine gate_callee (f := 16) rfl ?_); refine goesL_ (some 20) rfl rfl Try.func16 (by kernel_rfl) rfl #[.slice Ao37 y283.length co37] rfl (by (try simp only [List.map_toArray, List.map_cons, List.map_nil]); first | done | rfl | (simp only [List.length_drop, List.length_take]; rfl)) ?_; (with_reducible refine (seqs_Of.calls kj3 _ _ y283 t286 _ ?side1 ?side2 A8.out).mono ?_); (case side1 => repeat (first | exact (Kd.R_reads' HO285.out).2.2 | (with_reducible refine Kd.C_alloc ?_ _) | (with_reducible refine Kd.C_drewN ?_ _) | (with_reducible refine Kd.C_drew ?_))); (case side2 => exact (Kd.R_reads' HO285.out).2.1); rintro e w38 ⟨v287, rfl, ho0, hb⟩; refine ⟨_, rfl, ?_⟩; have n0_ := Aside0.mk (Kd.R_below (by (with_reducible repeat (first | apply Kd.R_alloc | apply Kd.R_drewN | apply Kd.R_drew)); exact HO285.out) hb); have n1_ := Aside0.mk (Kd.S_lower (Kd.S_new' ho0 (Kd.R_lt (by (with_reducible repeat (first | apply Kd.R_alloc | apply Kd.R_drewN | apply Kd.R_drew)); exact HO285.out))) (below_size (by repeat (first | (with_reducible first | exact HB.out | apply below_alloc | apply pw_below_drewN | apply below_drew1) | exact HB.out)))); have n2_ := Aside0.mk (below_step (by repeat (first | (with_reducible first | exact HB.out | apply below_alloc | apply pw_below_drewN | apply below_drew1) | exact HB.out)) hb); clear HO285; clear HB; have HO285 := n0_; have HO288 := n1_; have HB := n2_; clear n0_ n1_ n2_; (try clear hb); (try clear hb2); (try clear hk); (try clear hi); (try clear ho0)) | ((with_reducible refine gate_callee (f := 23) rfl ?_); refine goesL_ (some 24) rfl rfl Try.func23 (by kernel_rfl) rfl #[.slice A0 l0.length c0, .int .i64 a1] rfl (by (try simp only [List.map_toArray, List.map_cons, List.map_nil]); first | done | rfl | (simp only [List.length_drop, List.length_take]; rfl)) ?_; (with_reducible refine (utf_Next.calls _ _ l0 a1 t289 t290 _ ?side1 ?side2 A9.out).mono ?_); (case side1 => repeat (first | exact (Kd.C_below HR0.out HB.out) | (with_reducible refine Kd.C_alloc ?_ _) | (with_reducible refine Kd.C_drewN ?_ _) | (with_reducible refine Kd.C_drew ?_))); (case side2 => exact HC0.out); rintro e w39 ⟨rfl, hb⟩; refine ⟨_, rfl, ?_⟩; have n0_ := Aside0.mk (Kd.R_below (by (with_reducible repeat (first | apply Kd.R_alloc | apply Kd.R_drewN | apply Kd.R_drew)); exact HO285.out) hb); have n1_ := Aside0.mk (Kd.S_below (by (with_reducible repeat (first | apply Kd.S_alloc | apply Kd.S_drewN | apply Kd.S_drew)); exact HO288.out) hb); have n2_ := Aside0.mk (below_step (by repeat (first | (with_reducible first | exact HB.out | apply below_alloc | apply pw_below_drewN | apply below_drew1) | exact HB.out)) hb); clear HO285; clear HO288; clear HB; have HO285 := n0_; have HO288 := n1_; have HB := n2_; clear n0_ n1_ n2_; (try clear hb); (try clear hb2); (try clear hk); (try clear hi); obtain ⟨Ao40, co40, eo40⟩ := Kd.S_slice HO288.out; subst eo40))
            go_ret
            exact ⟨by first | rfl | (simp [errW_none, errW_some] <;> rfl) | (simp [*, errW_none, errW_some] <;> rfl), by repeat (first | (with_reducible first | exact HB.out | apply below_alloc | apply pw_below_drewN | apply below_drew1) | exact HB.out)⟩

/-- THE ONE PURE STATEMENT of exegetelaw03_SeqsAll: yours. -/
def exegetelaw03_SeqsAll.Pure : Prop := ∀ (l0 : List Int) (a1 : Int), l0.length ≤ maxLen → l0.length * 1 ≤ 140737488351232 → (∀ x ∈ l0, (Lit.int .u8 x).wf = true) → (Lit.int .i64 a1).wf = true → ∃ k, exegetelaw03_SeqsAll.f k l0 a1 = some true
theorem exegetelaw03_SeqsAll.walk (P : exegetelaw03_SeqsAll.Pure) (a0 : Option Addr) (len0 cap0 : Nat) (z0 : List Int) (a1 : Int) (w : World) (w0 : (a0 = none ∧ len0 = 0 ∧ cap0 = 0 ∧ z0 = []) ∨ ∃ x, a0 = some x ∧ len0 ≤ cap0 ∧ cap0 ≤ maxLen ∧ z0.length = cap0 ∧ (∀ i, i < z0.length → w.cell? (x.add i) = some (.int .u8 (z0.getD i 0))) ∧ ∀ n ∈ z0, (Lit.int .u8 n).wf = true) (y0 : len0 * 1 ≤ 140737488351232) (w1 : (Lit.int .i64 a1).wf = true) :
    Calls Try.prog 7 #[.slice a0 len0 cap0, .int .i64 a1] w fun e w' => e = .returned (.bool true) ∧ Below w.heap.size w w' := by
  obtain ⟨l0, rfl, hr0, hm0, hw0, hc0⟩ := ReadsInt.ofRowC w0
  obtain ⟨k, h⟩ := P l0 a1 hm0 y0 hw0 w1
  refine (exegetelaw03_SeqsAll.calls k _ _ l0 a1 true w (Kd.C_of_reads (d := (0 : Int)) (h1 := fun _ => rfl) hr0) hc0 h).mono ?_
  rintro e w' ⟨rfl, hd⟩
  exact ⟨rfl, hd⟩

end Go.Proofs.Ytcdahnkdongmdaa.All
