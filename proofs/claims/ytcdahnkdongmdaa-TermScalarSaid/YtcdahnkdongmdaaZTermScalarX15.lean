/- Texts of the claim TermScalar, merged, without what it does not use. -/
import Derived.Test.YtcdahnkdongmdaaZTermScalarX1
import Derived.Test.YtcdahnkdongmdaaZTermScalarX5
import Derived.Test.YtcdahnkdongmdaaZTermScalarX14
namespace Go.Proofs.Ytcdahnkdongmdaa.All
open Go.RowKit Go.Proofs.YtcdahnkdongmdaaW.PrintWords Go.Proofs.YtcdahnkdongmdaaW.PrintLast Go.Proofs.YtcdahnkdongmdaaW.PrintMore
attribute [local go_sem] max2_int min2_int max_two min_two max_three min_three max_four min_four
set_option linter.unusedVariables false
set_option linter.unusedSimpArgs false
theorem utf_way2 (A0 : Option Addr) (c0 : Nat) (l0 : List Int) (r1 : Int) (r2 : Bool) (w : World) (hr0 : Kd.C (Kd.int .u8) w A0 l0.length l0) (hc0 : l0.length ≤ c0) (h : utf_part_of.f 10 l0 2 192 = some (r1, r2)) :
    Calls Try.prog 46 #[.slice A0 l0.length c0] w fun e w' => e = .returned (.tuple #[.int .i64 r1, .bool r2]) ∧ Below w.heap.size w w' := by
  have HR := Aside0.mk hr0; have HC := Aside0.mk hc0; have H := Aside0.mk h; clear hr0 hc0 h
  have hix := heads_at2
  go_enter Try.func46, Try.ntmps46
  go_wp2_with (first | (go_at_call 35; (with_reducible refine (heads_calls _).mono ?_); rintro e w' ⟨rfl, rfl⟩) | (go_at_call 64; (with_reducible refine (utf_part_of.calls 10 A0 c0 l0 2 192 r1 r2 _ ?side1 HC.out H.out).mono ?_); (case side1 => exact Kd.C_alloc HR.out _); rintro e w' ⟨rfl, ⟨nd, rfl⟩⟩))
  go_ret2
  exact ⟨rfl, pw_below_drewN ((Below.refl _ _).alloc (Nat.le_refl _) _) _⟩
theorem utf_way3 (A0 : Option Addr) (c0 : Nat) (l0 : List Int) (r1 : Int) (r2 : Bool) (w : World) (hr0 : Kd.C (Kd.int .u8) w A0 l0.length l0) (hc0 : l0.length ≤ c0) (h : utf_part_of.f 10 l0 3 224 = some (r1, r2)) :
    Calls Try.prog 47 #[.slice A0 l0.length c0] w fun e w' => e = .returned (.tuple #[.int .i64 r1, .bool r2]) ∧ Below w.heap.size w w' := by
  have HR := Aside0.mk hr0; have HC := Aside0.mk hc0; have H := Aside0.mk h; clear hr0 hc0 h
  have hix := heads_at3
  go_enter Try.func47, Try.ntmps47
  go_wp2_with (first | (go_at_call 35; (with_reducible refine (heads_calls _).mono ?_); rintro e w' ⟨rfl, rfl⟩) | (go_at_call 64; (with_reducible refine (utf_part_of.calls 10 A0 c0 l0 3 224 r1 r2 _ ?side1 HC.out H.out).mono ?_); (case side1 => exact Kd.C_alloc HR.out _); rintro e w' ⟨rfl, ⟨nd, rfl⟩⟩))
  go_ret2
  exact ⟨rfl, pw_below_drewN ((Below.refl _ _).alloc (Nat.le_refl _) _) _⟩
theorem utf_way4 (A0 : Option Addr) (c0 : Nat) (l0 : List Int) (r1 : Int) (r2 : Bool) (w : World) (hr0 : Kd.C (Kd.int .u8) w A0 l0.length l0) (hc0 : l0.length ≤ c0) (h : utf_part_of.f 10 l0 4 240 = some (r1, r2)) :
    Calls Try.prog 48 #[.slice A0 l0.length c0] w fun e w' => e = .returned (.tuple #[.int .i64 r1, .bool r2]) ∧ Below w.heap.size w w' := by
  have HR := Aside0.mk hr0; have HC := Aside0.mk hc0; have H := Aside0.mk h; clear hr0 hc0 h
  have hix := heads_at4
  go_enter Try.func48, Try.ntmps48
  go_wp2_with (first | (go_at_call 35; (with_reducible refine (heads_calls _).mono ?_); rintro e w' ⟨rfl, rfl⟩) | (go_at_call 64; (with_reducible refine (utf_part_of.calls 10 A0 c0 l0 4 240 r1 r2 _ ?side1 HC.out H.out).mono ?_); (case side1 => exact Kd.C_alloc HR.out _); rintro e w' ⟨rfl, ⟨nd, rfl⟩⟩))
  go_ret2
  exact ⟨rfl, pw_below_drewN ((Below.refl _ _).alloc (Nat.le_refl _) _) _⟩
def utf_Next.f (l0 : List Int) (a1 : Int) : Option (Int × Int) :=
  if a1 < 0 then some (-1, 0) else if a1 ≥ (l0.length : Int) then some (-1, 0) else
  (utf_part_one.f 10 (l0.drop a1.toNat)).bind fun t1 => if t1.2 = true then some (t1.1, 1) else
  (utf_part_of.f 10 (l0.drop a1.toNat) 2 192).bind fun t2 => if t2.2 = true then some (t2.1, 2) else
  (utf_part_of.f 10 (l0.drop a1.toNat) 3 224).bind fun t3 => if t3.2 = true then some (t3.1, 3) else
  (utf_part_of.f 10 (l0.drop a1.toNat) 4 240).bind fun t4 => if t4.2 = true then some (t4.1, 4) else some (-1, 1)
theorem utf_fn0 (W : World) : (Instr.index 74 (.agg #[.func (.func 45) #[] #[], .func (.func 46) #[] #[], .func (.func 47) #[] #[], .func (.func 48) #[] #[]]) (.int .i64 0)).run Try.prog W = .ok (.func (.func 45) #[] #[]) W := by kernel_rfl
theorem utf_fn1 (W : World) : (Instr.index 74 (.agg #[.func (.func 45) #[] #[], .func (.func 46) #[] #[], .func (.func 47) #[] #[], .func (.func 48) #[] #[]]) (.int .i64 1)).run Try.prog W = .ok (.func (.func 46) #[] #[]) W := by kernel_rfl
theorem utf_fn2 (W : World) : (Instr.index 74 (.agg #[.func (.func 45) #[] #[], .func (.func 46) #[] #[], .func (.func 47) #[] #[], .func (.func 48) #[] #[]]) (.int .i64 2)).run Try.prog W = .ok (.func (.func 47) #[] #[]) W := by kernel_rfl
theorem utf_fn3 (W : World) : (Instr.index 74 (.agg #[.func (.func 45) #[] #[], .func (.func 46) #[] #[], .func (.func 47) #[] #[], .func (.func 48) #[] #[]]) (.int .i64 3)).run Try.prog W = .ok (.func (.func 48) #[] #[]) W := by kernel_rfl
set_option maxHeartbeats 1600000 in
set_option maxRecDepth 100000 in
theorem utf_Next.at1 (A0 : Option Addr) (c0 : Nat) (l0 : List Int) (a1 : Int) (w : World) (hr0 : Kd.C (Kd.int .u8) w A0 l0.length l0) (hc0 : l0.length ≤ c0) (h0 : 0 ≤ a1) (h1 : a1 < (l0.length : Int)) (p1 : Int) (e1 : utf_part_one.f 10 (l0.drop a1.toNat) = some (p1, true)) :
    Calls Try.prog 23 #[.slice A0 l0.length c0, .int .i64 a1] w fun e w' => e = .returned (.tuple #[.int .i64 p1, .int .i64 1]) ∧ Below w.heap.size w w' := by
  obtain ⟨i0, hi0, _, hsz, _⟩ := info_parts info5
  have hcut := cut_from (P := Try.prog) 24 5 .i64 Try.underlying24 hi0 1 hsz A0 l0.length c0 a1 h0 (by omega)
  have hr := Kd.C_drop (m := a1.toNat) hr0 (by omega) hc0
  obtain ⟨A1, hA1⟩ : ∃ A1_, A1_ = (if c0 = a1.toNat then A0 else A0.map (·.add (a1.toNat * 1))) := ⟨_, rfl⟩
  obtain ⟨c1, hc1⟩ : ∃ c1_, c1_ = c0 - a1.toNat := ⟨_, rfl⟩
  replace hr : Kd.C (Kd.int .u8) w A1 (l0.drop a1.toNat).length (l0.drop a1.toNat) := by rw [hA1]; exact hr
  rw [← hA1, ← hc1, show l0.length - a1.toNat = (l0.drop a1.toNat).length by rw [List.length_drop]] at hcut
  have hc2 : (l0.drop a1.toNat).length ≤ c1 := by rw [List.length_drop, hc1]; omega
  generalize l0.drop a1.toNat = y at *
  have HR := Aside0.mk hr; have HC := Aside0.mk hc2; clear hr hc2 hr0 hc0 hA1 hc1 hi0 hsz
  have hb0 : decide (a1 < 0) = false := decide_eq_false (by omega)
  have hb1 : decide ((l0.length : Int) ≤ a1) = false := decide_eq_false (by omega)
  have k0 := utf_fn0; have k1 := utf_fn1; have k2 := utf_fn2; have k3 := utf_fn3
  have E1 := Aside0.mk e1; clear e1
  go_enter Try.func23, Try.ntmps23
  go_wp2
  refine wp_loop_rounds 5 ?_
  rw [rounds_succ]
  go_wp2_with (go_at_call 45; (with_reducible refine (utf_part_one.calls 10 A1 c1 y p1 true _ HR.out HC.out E1.out).mono ?_); rintro e w' ⟨rfl, ⟨n1, rfl⟩⟩)
  go_ret2
  exact ⟨rfl, pw_below_drewN (Below.refl _ _) _⟩
set_option maxHeartbeats 1600000 in
set_option maxRecDepth 100000 in
theorem utf_Next.at2 (A0 : Option Addr) (c0 : Nat) (l0 : List Int) (a1 : Int) (w : World) (hr0 : Kd.C (Kd.int .u8) w A0 l0.length l0) (hc0 : l0.length ≤ c0) (h0 : 0 ≤ a1) (h1 : a1 < (l0.length : Int)) (p1 : Int) (p2 : Int) (e1 : utf_part_one.f 10 (l0.drop a1.toNat) = some (p1, false)) (e2 : utf_part_of.f 10 (l0.drop a1.toNat) 2 192 = some (p2, true)) :
    Calls Try.prog 23 #[.slice A0 l0.length c0, .int .i64 a1] w fun e w' => e = .returned (.tuple #[.int .i64 p2, .int .i64 2]) ∧ Below w.heap.size w w' := by
  obtain ⟨i0, hi0, _, hsz, _⟩ := info_parts info5
  have hcut := cut_from (P := Try.prog) 24 5 .i64 Try.underlying24 hi0 1 hsz A0 l0.length c0 a1 h0 (by omega)
  have hr := Kd.C_drop (m := a1.toNat) hr0 (by omega) hc0
  obtain ⟨A1, hA1⟩ : ∃ A1_, A1_ = (if c0 = a1.toNat then A0 else A0.map (·.add (a1.toNat * 1))) := ⟨_, rfl⟩
  obtain ⟨c1, hc1⟩ : ∃ c1_, c1_ = c0 - a1.toNat := ⟨_, rfl⟩
  replace hr : Kd.C (Kd.int .u8) w A1 (l0.drop a1.toNat).length (l0.drop a1.toNat) := by rw [hA1]; exact hr
  rw [← hA1, ← hc1, show l0.length - a1.toNat = (l0.drop a1.toNat).length by rw [List.length_drop]] at hcut
  have hc2 : (l0.drop a1.toNat).length ≤ c1 := by rw [List.length_drop, hc1]; omega
  generalize l0.drop a1.toNat = y at *
  have HR := Aside0.mk hr; have HC := Aside0.mk hc2; clear hr hc2 hr0 hc0 hA1 hc1 hi0 hsz
  have hb0 : decide (a1 < 0) = false := decide_eq_false (by omega)
  have hb1 : decide ((l0.length : Int) ≤ a1) = false := decide_eq_false (by omega)
  have k0 := utf_fn0; have k1 := utf_fn1; have k2 := utf_fn2; have k3 := utf_fn3
  have E1 := Aside0.mk e1; clear e1; have E2 := Aside0.mk e2; clear e2
  go_enter Try.func23, Try.ntmps23
  go_wp2
  refine wp_loop_rounds 5 ?_
  rw [rounds_succ]
  go_wp2_with (go_at_call 45; (with_reducible refine (utf_part_one.calls 10 A1 c1 y p1 false _ HR.out HC.out E1.out).mono ?_); rintro e w' ⟨rfl, ⟨n1, rfl⟩⟩)
  rw [rounds_succ]
  go_wp2_with (go_at_call 46; (with_reducible refine (utf_way2 A1 c1 y p2 true _ ?s2 HC.out E2.out).mono ?_); (case s2 => exact Kd.C_drewN HR.out _); rintro e w2 ⟨rfl, hb2⟩; have HB2 := Aside0.mk (below_step (pw_below_drewN (Below.refl w.heap.size w) n1) hb2); clear hb2)
  go_ret2
  exact ⟨rfl, HB2.out⟩
set_option maxHeartbeats 1600000 in
set_option maxRecDepth 100000 in
theorem utf_Next.at3 (A0 : Option Addr) (c0 : Nat) (l0 : List Int) (a1 : Int) (w : World) (hr0 : Kd.C (Kd.int .u8) w A0 l0.length l0) (hc0 : l0.length ≤ c0) (h0 : 0 ≤ a1) (h1 : a1 < (l0.length : Int)) (p1 : Int) (p2 : Int) (p3 : Int) (e1 : utf_part_one.f 10 (l0.drop a1.toNat) = some (p1, false)) (e2 : utf_part_of.f 10 (l0.drop a1.toNat) 2 192 = some (p2, false)) (e3 : utf_part_of.f 10 (l0.drop a1.toNat) 3 224 = some (p3, true)) :
    Calls Try.prog 23 #[.slice A0 l0.length c0, .int .i64 a1] w fun e w' => e = .returned (.tuple #[.int .i64 p3, .int .i64 3]) ∧ Below w.heap.size w w' := by
  obtain ⟨i0, hi0, _, hsz, _⟩ := info_parts info5
  have hcut := cut_from (P := Try.prog) 24 5 .i64 Try.underlying24 hi0 1 hsz A0 l0.length c0 a1 h0 (by omega)
  have hr := Kd.C_drop (m := a1.toNat) hr0 (by omega) hc0
  obtain ⟨A1, hA1⟩ : ∃ A1_, A1_ = (if c0 = a1.toNat then A0 else A0.map (·.add (a1.toNat * 1))) := ⟨_, rfl⟩
  obtain ⟨c1, hc1⟩ : ∃ c1_, c1_ = c0 - a1.toNat := ⟨_, rfl⟩
  replace hr : Kd.C (Kd.int .u8) w A1 (l0.drop a1.toNat).length (l0.drop a1.toNat) := by rw [hA1]; exact hr
  rw [← hA1, ← hc1, show l0.length - a1.toNat = (l0.drop a1.toNat).length by rw [List.length_drop]] at hcut
  have hc2 : (l0.drop a1.toNat).length ≤ c1 := by rw [List.length_drop, hc1]; omega
  generalize l0.drop a1.toNat = y at *
  have HR := Aside0.mk hr; have HC := Aside0.mk hc2; clear hr hc2 hr0 hc0 hA1 hc1 hi0 hsz
  have hb0 : decide (a1 < 0) = false := decide_eq_false (by omega)
  have hb1 : decide ((l0.length : Int) ≤ a1) = false := decide_eq_false (by omega)
  have k0 := utf_fn0; have k1 := utf_fn1; have k2 := utf_fn2; have k3 := utf_fn3
  have E1 := Aside0.mk e1; clear e1; have E2 := Aside0.mk e2; clear e2; have E3 := Aside0.mk e3; clear e3
  go_enter Try.func23, Try.ntmps23
  go_wp2
  refine wp_loop_rounds 5 ?_
  rw [rounds_succ]
  go_wp2_with (go_at_call 45; (with_reducible refine (utf_part_one.calls 10 A1 c1 y p1 false _ HR.out HC.out E1.out).mono ?_); rintro e w' ⟨rfl, ⟨n1, rfl⟩⟩)
  rw [rounds_succ]
  go_wp2_with (go_at_call 46; (with_reducible refine (utf_way2 A1 c1 y p2 false _ ?s2 HC.out E2.out).mono ?_); (case s2 => exact Kd.C_drewN HR.out _); rintro e w2 ⟨rfl, hb2⟩; have HB2 := Aside0.mk (below_step (pw_below_drewN (Below.refl w.heap.size w) n1) hb2); clear hb2)
  rw [rounds_succ]
  go_wp2_with (go_at_call 47; (with_reducible refine (utf_way3 A1 c1 y p3 true _ ?s3 HC.out E3.out).mono ?_); (case s3 => exact Kd.C_below HR.out HB2.out); rintro e w3 ⟨rfl, hb3⟩; have HB3 := Aside0.mk (below_step HB2.out hb3); clear hb3)
  go_ret2
  exact ⟨rfl, HB3.out⟩
set_option maxHeartbeats 1600000 in
set_option maxRecDepth 100000 in
theorem utf_Next.at4 (A0 : Option Addr) (c0 : Nat) (l0 : List Int) (a1 : Int) (w : World) (hr0 : Kd.C (Kd.int .u8) w A0 l0.length l0) (hc0 : l0.length ≤ c0) (h0 : 0 ≤ a1) (h1 : a1 < (l0.length : Int)) (p1 : Int) (p2 : Int) (p3 : Int) (p4 : Int) (e1 : utf_part_one.f 10 (l0.drop a1.toNat) = some (p1, false)) (e2 : utf_part_of.f 10 (l0.drop a1.toNat) 2 192 = some (p2, false)) (e3 : utf_part_of.f 10 (l0.drop a1.toNat) 3 224 = some (p3, false)) (e4 : utf_part_of.f 10 (l0.drop a1.toNat) 4 240 = some (p4, true)) :
    Calls Try.prog 23 #[.slice A0 l0.length c0, .int .i64 a1] w fun e w' => e = .returned (.tuple #[.int .i64 p4, .int .i64 4]) ∧ Below w.heap.size w w' := by
  obtain ⟨i0, hi0, _, hsz, _⟩ := info_parts info5
  have hcut := cut_from (P := Try.prog) 24 5 .i64 Try.underlying24 hi0 1 hsz A0 l0.length c0 a1 h0 (by omega)
  have hr := Kd.C_drop (m := a1.toNat) hr0 (by omega) hc0
  obtain ⟨A1, hA1⟩ : ∃ A1_, A1_ = (if c0 = a1.toNat then A0 else A0.map (·.add (a1.toNat * 1))) := ⟨_, rfl⟩
  obtain ⟨c1, hc1⟩ : ∃ c1_, c1_ = c0 - a1.toNat := ⟨_, rfl⟩
  replace hr : Kd.C (Kd.int .u8) w A1 (l0.drop a1.toNat).length (l0.drop a1.toNat) := by rw [hA1]; exact hr
  rw [← hA1, ← hc1, show l0.length - a1.toNat = (l0.drop a1.toNat).length by rw [List.length_drop]] at hcut
  have hc2 : (l0.drop a1.toNat).length ≤ c1 := by rw [List.length_drop, hc1]; omega
  generalize l0.drop a1.toNat = y at *
  have HR := Aside0.mk hr; have HC := Aside0.mk hc2; clear hr hc2 hr0 hc0 hA1 hc1 hi0 hsz
  have hb0 : decide (a1 < 0) = false := decide_eq_false (by omega)
  have hb1 : decide ((l0.length : Int) ≤ a1) = false := decide_eq_false (by omega)
  have k0 := utf_fn0; have k1 := utf_fn1; have k2 := utf_fn2; have k3 := utf_fn3
  have E1 := Aside0.mk e1; clear e1; have E2 := Aside0.mk e2; clear e2; have E3 := Aside0.mk e3; clear e3; have E4 := Aside0.mk e4; clear e4
  go_enter Try.func23, Try.ntmps23
  go_wp2
  refine wp_loop_rounds 5 ?_
  rw [rounds_succ]
  go_wp2_with (go_at_call 45; (with_reducible refine (utf_part_one.calls 10 A1 c1 y p1 false _ HR.out HC.out E1.out).mono ?_); rintro e w' ⟨rfl, ⟨n1, rfl⟩⟩)
  rw [rounds_succ]
  go_wp2_with (go_at_call 46; (with_reducible refine (utf_way2 A1 c1 y p2 false _ ?s2 HC.out E2.out).mono ?_); (case s2 => exact Kd.C_drewN HR.out _); rintro e w2 ⟨rfl, hb2⟩; have HB2 := Aside0.mk (below_step (pw_below_drewN (Below.refl w.heap.size w) n1) hb2); clear hb2)
  rw [rounds_succ]
  go_wp2_with (go_at_call 47; (with_reducible refine (utf_way3 A1 c1 y p3 false _ ?s3 HC.out E3.out).mono ?_); (case s3 => exact Kd.C_below HR.out HB2.out); rintro e w3 ⟨rfl, hb3⟩; have HB3 := Aside0.mk (below_step HB2.out hb3); clear hb3)
  rw [rounds_succ]
  go_wp2_with (go_at_call 48; (with_reducible refine (utf_way4 A1 c1 y p4 true _ ?s4 HC.out E4.out).mono ?_); (case s4 => exact Kd.C_below HR.out HB3.out); rintro e w4 ⟨rfl, hb4⟩; have HB4 := Aside0.mk (below_step HB3.out hb4); clear hb4)
  go_ret2
  exact ⟨rfl, HB4.out⟩
set_option maxHeartbeats 1600000 in
set_option maxRecDepth 100000 in
theorem utf_Next.at5 (A0 : Option Addr) (c0 : Nat) (l0 : List Int) (a1 : Int) (w : World) (hr0 : Kd.C (Kd.int .u8) w A0 l0.length l0) (hc0 : l0.length ≤ c0) (h0 : 0 ≤ a1) (h1 : a1 < (l0.length : Int)) (p1 : Int) (p2 : Int) (p3 : Int) (p4 : Int) (e1 : utf_part_one.f 10 (l0.drop a1.toNat) = some (p1, false)) (e2 : utf_part_of.f 10 (l0.drop a1.toNat) 2 192 = some (p2, false)) (e3 : utf_part_of.f 10 (l0.drop a1.toNat) 3 224 = some (p3, false)) (e4 : utf_part_of.f 10 (l0.drop a1.toNat) 4 240 = some (p4, false)) :
    Calls Try.prog 23 #[.slice A0 l0.length c0, .int .i64 a1] w fun e w' => e = .returned (.tuple #[.int .i64 (-1), .int .i64 1]) ∧ Below w.heap.size w w' := by
  obtain ⟨i0, hi0, _, hsz, _⟩ := info_parts info5
  have hcut := cut_from (P := Try.prog) 24 5 .i64 Try.underlying24 hi0 1 hsz A0 l0.length c0 a1 h0 (by omega)
  have hr := Kd.C_drop (m := a1.toNat) hr0 (by omega) hc0
  obtain ⟨A1, hA1⟩ : ∃ A1_, A1_ = (if c0 = a1.toNat then A0 else A0.map (·.add (a1.toNat * 1))) := ⟨_, rfl⟩
  obtain ⟨c1, hc1⟩ : ∃ c1_, c1_ = c0 - a1.toNat := ⟨_, rfl⟩
  replace hr : Kd.C (Kd.int .u8) w A1 (l0.drop a1.toNat).length (l0.drop a1.toNat) := by rw [hA1]; exact hr
  rw [← hA1, ← hc1, show l0.length - a1.toNat = (l0.drop a1.toNat).length by rw [List.length_drop]] at hcut
  have hc2 : (l0.drop a1.toNat).length ≤ c1 := by rw [List.length_drop, hc1]; omega
  generalize l0.drop a1.toNat = y at *
  have HR := Aside0.mk hr; have HC := Aside0.mk hc2; clear hr hc2 hr0 hc0 hA1 hc1 hi0 hsz
  have hb0 : decide (a1 < 0) = false := decide_eq_false (by omega)
  have hb1 : decide ((l0.length : Int) ≤ a1) = false := decide_eq_false (by omega)
  have k0 := utf_fn0; have k1 := utf_fn1; have k2 := utf_fn2; have k3 := utf_fn3
  have E1 := Aside0.mk e1; clear e1; have E2 := Aside0.mk e2; clear e2; have E3 := Aside0.mk e3; clear e3; have E4 := Aside0.mk e4; clear e4
  go_enter Try.func23, Try.ntmps23
  go_wp2
  refine wp_loop_rounds 5 ?_
  rw [rounds_succ]
  go_wp2_with (go_at_call 45; (with_reducible refine (utf_part_one.calls 10 A1 c1 y p1 false _ HR.out HC.out E1.out).mono ?_); rintro e w' ⟨rfl, ⟨n1, rfl⟩⟩)
  rw [rounds_succ]
  go_wp2_with (go_at_call 46; (with_reducible refine (utf_way2 A1 c1 y p2 false _ ?s2 HC.out E2.out).mono ?_); (case s2 => exact Kd.C_drewN HR.out _); rintro e w2 ⟨rfl, hb2⟩; have HB2 := Aside0.mk (below_step (pw_below_drewN (Below.refl w.heap.size w) n1) hb2); clear hb2)
  rw [rounds_succ]
  go_wp2_with (go_at_call 47; (with_reducible refine (utf_way3 A1 c1 y p3 false _ ?s3 HC.out E3.out).mono ?_); (case s3 => exact Kd.C_below HR.out HB2.out); rintro e w3 ⟨rfl, hb3⟩; have HB3 := Aside0.mk (below_step HB2.out hb3); clear hb3)
  rw [rounds_succ]
  go_wp2_with (go_at_call 48; (with_reducible refine (utf_way4 A1 c1 y p4 false _ ?s4 HC.out E4.out).mono ?_); (case s4 => exact Kd.C_below HR.out HB3.out); rintro e w4 ⟨rfl, hb4⟩; have HB4 := Aside0.mk (below_step HB3.out hb4); clear hb4)
  rw [rounds_succ]
  go_wp2
  go_ret2
  exact ⟨rfl, HB4.out⟩
theorem utf_Next.calls (A0 : Option Addr) (c0 : Nat) (l0 : List Int) (a1 : Int) (r1 r2 : Int) (w : World) (hr0 : Kd.C (Kd.int .u8) w A0 l0.length l0) (hc0 : l0.length ≤ c0) (h : utf_Next.f l0 a1 = some (r1, r2)) :
    Calls Try.prog 23 #[.slice A0 l0.length c0, .int .i64 a1] w fun e w' => e = .returned (.tuple #[.int .i64 r1, .int .i64 r2]) ∧ Below w.heap.size w w' := by
  unfold utf_Next.f at h
  by_cases c1 : a1 < 0
  · rw [if_pos c1] at h
    simp only [Option.some.injEq, Prod.mk.injEq] at h
    obtain ⟨rfl, rfl⟩ := h
    clear hr0
    go_enter Try.func23, Try.ntmps23
    go_wp2
    go_ret2
    exact ⟨rfl, Below.refl _ _⟩
  · rw [if_neg c1] at h
    by_cases c2 : a1 ≥ (l0.length : Int)
    · rw [if_pos c2] at h
      simp only [Option.some.injEq, Prod.mk.injEq] at h
      obtain ⟨rfl, rfl⟩ := h
      clear hr0
      have hb0 : decide (a1 < 0) = false := decide_eq_false (by omega)
      have hb1 : decide ((l0.length : Int) ≤ a1) = true := decide_eq_true (by omega)
      go_enter Try.func23, Try.ntmps23
      go_wp2
      go_ret2
      exact ⟨rfl, Below.refl _ _⟩
    · rw [if_neg c2] at h
      obtain ⟨⟨p1, b1⟩, e1, h⟩ := Option.bind_eq_some_iff.mp h
      cases b1 with
      | true =>
        simp only [if_true, Option.some.injEq, Prod.mk.injEq] at h
        obtain ⟨rfl, rfl⟩ := h
        exact utf_Next.at1 A0 c0 l0 a1 w hr0 hc0 (by omega) (by omega) p1 e1
      | false =>
        simp only [Bool.false_eq_true, if_false] at h
        obtain ⟨⟨p2, b2⟩, e2, h⟩ := Option.bind_eq_some_iff.mp h
        cases b2 with
        | true =>
          simp only [if_true, Option.some.injEq, Prod.mk.injEq] at h
          obtain ⟨rfl, rfl⟩ := h
          exact utf_Next.at2 A0 c0 l0 a1 w hr0 hc0 (by omega) (by omega) p1 p2 e1 e2
        | false =>
          simp only [Bool.false_eq_true, if_false] at h
          obtain ⟨⟨p3, b3⟩, e3, h⟩ := Option.bind_eq_some_iff.mp h
          cases b3 with
          | true =>
            simp only [if_true, Option.some.injEq, Prod.mk.injEq] at h
            obtain ⟨rfl, rfl⟩ := h
            exact utf_Next.at3 A0 c0 l0 a1 w hr0 hc0 (by omega) (by omega) p1 p2 p3 e1 e2 e3
          | false =>
            simp only [Bool.false_eq_true, if_false] at h
            obtain ⟨⟨p4, b4⟩, e4, h⟩ := Option.bind_eq_some_iff.mp h
            cases b4 with
            | true =>
              simp only [if_true, Option.some.injEq, Prod.mk.injEq] at h
              obtain ⟨rfl, rfl⟩ := h
              exact utf_Next.at4 A0 c0 l0 a1 w hr0 hc0 (by omega) (by omega) p1 p2 p3 p4 e1 e2 e3 e4
            | false =>
              simp only [Bool.false_eq_true, if_false, Option.some.injEq, Prod.mk.injEq] at h
              obtain ⟨rfl, rfl⟩ := h
              exact utf_Next.at5 A0 c0 l0 a1 w hr0 hc0 (by omega) (by omega) p1 p2 p3 p4 e1 e2 e3 e4
end Go.Proofs.Ytcdahnkdongmdaa.All
