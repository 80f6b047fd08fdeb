/- Contracts of functions of the program, each for every input, printed for this claim by a program out of the translation, some written by hand. -/
import Derived.Test.YtahabdogohdjeaaDoorAllx0
import Derived.Test.YtahabdogohdjeaaDoorAllx1
import Derived.Test.YtahabdogohdjeaaDoorAllx2
namespace Go.Proofs.YtahabdogohdjeaaDoor.All
open Go.RowKit Go.Proofs.YtahabdogohdjeaaDoorW.PrintWords Go.Proofs.YtahabdogohdjeaaDoorW.PrintLast Go.Proofs.YtahabdogohdjeaaDoorW.PrintMore
attribute [local go_sem] max2_int min2_int max_two min_two max_three min_three max_four min_four   -- for this text's walks alone
set_option linter.unusedVariables false
set_option linter.unusedSimpArgs false

/-! ### utf_Next: function 22 -/
theorem utf_way2 (A0 : Option Addr) (c0 : Nat) (l0 : List Int) (r1 : Int) (r2 : Bool) (w : World) (hr0 : Kd.C (Kd.int .u8) w A0 l0.length l0) (hc0 : l0.length ≤ c0) (h : utf_part_of.f 10 l0 2 192 = some (r1, r2)) :
    Calls Tryd.prog 30 #[.slice A0 l0.length c0] w fun e w' => e = .returned (.tuple #[.int .i64 r1, .bool r2]) ∧ Below w.heap.size w w' := by
  have HR := Aside0.mk hr0; have HC := Aside0.mk hc0; have H := Aside0.mk h; clear hr0 hc0 h
  have hix := heads_at2
  go_enter Tryd.func30, Tryd.ntmps30
  go_wp2_with (first | (go_at_call 41; (with_reducible refine (heads_calls _).mono ?_); rintro e w' ⟨rfl, rfl⟩) | (go_at_call 40; (with_reducible refine (utf_part_of.calls 10 A0 c0 l0 2 192 r1 r2 _ ?side1 HC.out H.out).mono ?_); (case side1 => exact Kd.C_alloc HR.out _); rintro e w' ⟨rfl, ⟨nd, rfl⟩⟩))
  go_ret2
  exact ⟨rfl, pw_below_drewN ((Below.refl _ _).alloc (Nat.le_refl _) _) _⟩
theorem utf_way3 (A0 : Option Addr) (c0 : Nat) (l0 : List Int) (r1 : Int) (r2 : Bool) (w : World) (hr0 : Kd.C (Kd.int .u8) w A0 l0.length l0) (hc0 : l0.length ≤ c0) (h : utf_part_of.f 10 l0 3 224 = some (r1, r2)) :
    Calls Tryd.prog 31 #[.slice A0 l0.length c0] w fun e w' => e = .returned (.tuple #[.int .i64 r1, .bool r2]) ∧ Below w.heap.size w w' := by
  have HR := Aside0.mk hr0; have HC := Aside0.mk hc0; have H := Aside0.mk h; clear hr0 hc0 h
  have hix := heads_at3
  go_enter Tryd.func31, Tryd.ntmps31
  go_wp2_with (first | (go_at_call 41; (with_reducible refine (heads_calls _).mono ?_); rintro e w' ⟨rfl, rfl⟩) | (go_at_call 40; (with_reducible refine (utf_part_of.calls 10 A0 c0 l0 3 224 r1 r2 _ ?side1 HC.out H.out).mono ?_); (case side1 => exact Kd.C_alloc HR.out _); rintro e w' ⟨rfl, ⟨nd, rfl⟩⟩))
  go_ret2
  exact ⟨rfl, pw_below_drewN ((Below.refl _ _).alloc (Nat.le_refl _) _) _⟩
theorem utf_way4 (A0 : Option Addr) (c0 : Nat) (l0 : List Int) (r1 : Int) (r2 : Bool) (w : World) (hr0 : Kd.C (Kd.int .u8) w A0 l0.length l0) (hc0 : l0.length ≤ c0) (h : utf_part_of.f 10 l0 4 240 = some (r1, r2)) :
    Calls Tryd.prog 32 #[.slice A0 l0.length c0] w fun e w' => e = .returned (.tuple #[.int .i64 r1, .bool r2]) ∧ Below w.heap.size w w' := by
  have HR := Aside0.mk hr0; have HC := Aside0.mk hc0; have H := Aside0.mk h; clear hr0 hc0 h
  have hix := heads_at4
  go_enter Tryd.func32, Tryd.ntmps32
  go_wp2_with (first | (go_at_call 41; (with_reducible refine (heads_calls _).mono ?_); rintro e w' ⟨rfl, rfl⟩) | (go_at_call 40; (with_reducible refine (utf_part_of.calls 10 A0 c0 l0 4 240 r1 r2 _ ?side1 HC.out H.out).mono ?_); (case side1 => exact Kd.C_alloc HR.out _); rintro e w' ⟨rfl, ⟨nd, rfl⟩⟩))
  go_ret2
  exact ⟨rfl, pw_below_drewN ((Below.refl _ _).alloc (Nat.le_refl _) _) _⟩
def utf_Next.f (l0 : List Int) (a1 : Int) : Option (Int × Int) :=
  if a1 < 0 then some (-1, 0) else if a1 ≥ (l0.length : Int) then some (-1, 0) else
  (utf_part_one.f 10 (l0.drop a1.toNat)).bind fun t1 => if t1.2 = true then some (t1.1, 1) else
  (utf_part_of.f 10 (l0.drop a1.toNat) 2 192).bind fun t2 => if t2.2 = true then some (t2.1, 2) else
  (utf_part_of.f 10 (l0.drop a1.toNat) 3 224).bind fun t3 => if t3.2 = true then some (t3.1, 3) else
  (utf_part_of.f 10 (l0.drop a1.toNat) 4 240).bind fun t4 => if t4.2 = true then some (t4.1, 4) else some (-1, 1)
theorem utf_fn0 (W : World) : (Instr.index 43 (.agg #[.func (.func 29) #[] #[], .func (.func 30) #[] #[], .func (.func 31) #[] #[], .func (.func 32) #[] #[]]) (.int .i64 0)).run Tryd.prog W = .ok (.func (.func 29) #[] #[]) W := by kernel_rfl
theorem utf_fn1 (W : World) : (Instr.index 43 (.agg #[.func (.func 29) #[] #[], .func (.func 30) #[] #[], .func (.func 31) #[] #[], .func (.func 32) #[] #[]]) (.int .i64 1)).run Tryd.prog W = .ok (.func (.func 30) #[] #[]) W := by kernel_rfl
theorem utf_fn2 (W : World) : (Instr.index 43 (.agg #[.func (.func 29) #[] #[], .func (.func 30) #[] #[], .func (.func 31) #[] #[], .func (.func 32) #[] #[]]) (.int .i64 2)).run Tryd.prog W = .ok (.func (.func 31) #[] #[]) W := by kernel_rfl
theorem utf_fn3 (W : World) : (Instr.index 43 (.agg #[.func (.func 29) #[] #[], .func (.func 30) #[] #[], .func (.func 31) #[] #[], .func (.func 32) #[] #[]]) (.int .i64 3)).run Tryd.prog W = .ok (.func (.func 32) #[] #[]) W := by kernel_rfl
set_option maxHeartbeats 1600000 in
set_option maxRecDepth 100000 in
theorem utf_Next.at1 (A0 : Option Addr) (c0 : Nat) (l0 : List Int) (a1 : Int) (w : World) (hr0 : Kd.C (Kd.int .u8) w A0 l0.length l0) (hc0 : l0.length ≤ c0) (h0 : 0 ≤ a1) (h1 : a1 < (l0.length : Int)) (p1 : Int) (e1 : utf_part_one.f 10 (l0.drop a1.toNat) = some (p1, true)) :
    Calls Tryd.prog 22 #[.slice A0 l0.length c0, .int .i64 a1] w fun e w' => e = .returned (.tuple #[.int .i64 p1, .int .i64 1]) ∧ Below w.heap.size w w' := by
  obtain ⟨i0, hi0, _, hsz, _⟩ := info_parts info5
  have hcut := cut_from (P := Tryd.prog) 22 5 .i64 Tryd.underlying22 hi0 1 hsz A0 l0.length c0 a1 h0 (by omega)
  have hr := Kd.C_drop (m := a1.toNat) hr0 (by omega) hc0
  obtain ⟨A1, hA1⟩ : ∃ A1_, A1_ = (if c0 = a1.toNat then A0 else A0.map (·.add (a1.toNat * 1))) := ⟨_, rfl⟩
  obtain ⟨c1, hc1⟩ : ∃ c1_, c1_ = c0 - a1.toNat := ⟨_, rfl⟩
  replace hr : Kd.C (Kd.int .u8) w A1 (l0.drop a1.toNat).length (l0.drop a1.toNat) := by rw [hA1]; exact hr
  rw [← hA1, ← hc1, show l0.length - a1.toNat = (l0.drop a1.toNat).length by rw [List.length_drop]] at hcut
  have hc2 : (l0.drop a1.toNat).length ≤ c1 := by rw [List.length_drop, hc1]; omega
  generalize l0.drop a1.toNat = y at *
  have HR := Aside0.mk hr; have HC := Aside0.mk hc2; clear hr hc2 hr0 hc0 hA1 hc1 hi0 hsz
  have hb0 : decide (a1 < 0) = false := decide_eq_false (by omega)
  have hb1 : decide ((l0.length : Int) ≤ a1) = false := decide_eq_false (by omega)
  have k0 := utf_fn0; have k1 := utf_fn1; have k2 := utf_fn2; have k3 := utf_fn3
  have E1 := Aside0.mk e1; clear e1
  go_enter Tryd.func22, Tryd.ntmps22
  go_wp2
  refine wp_loop_rounds 5 ?_
  rw [rounds_succ]
  go_wp2_with (go_at_call 29; (with_reducible refine (utf_part_one.calls 10 A1 c1 y p1 true _ HR.out HC.out E1.out).mono ?_); rintro e w' ⟨rfl, ⟨n1, rfl⟩⟩)
  go_ret2
  exact ⟨rfl, pw_below_drewN (Below.refl _ _) _⟩
set_option maxHeartbeats 1600000 in
set_option maxRecDepth 100000 in
theorem utf_Next.at2 (A0 : Option Addr) (c0 : Nat) (l0 : List Int) (a1 : Int) (w : World) (hr0 : Kd.C (Kd.int .u8) w A0 l0.length l0) (hc0 : l0.length ≤ c0) (h0 : 0 ≤ a1) (h1 : a1 < (l0.length : Int)) (p1 : Int) (p2 : Int) (e1 : utf_part_one.f 10 (l0.drop a1.toNat) = some (p1, false)) (e2 : utf_part_of.f 10 (l0.drop a1.toNat) 2 192 = some (p2, true)) :
    Calls Tryd.prog 22 #[.slice A0 l0.length c0, .int .i64 a1] w fun e w' => e = .returned (.tuple #[.int .i64 p2, .int .i64 2]) ∧ Below w.heap.size w w' := by
  obtain ⟨i0, hi0, _, hsz, _⟩ := info_parts info5
  have hcut := cut_from (P := Tryd.prog) 22 5 .i64 Tryd.underlying22 hi0 1 hsz A0 l0.length c0 a1 h0 (by omega)
  have hr := Kd.C_drop (m := a1.toNat) hr0 (by omega) hc0
  obtain ⟨A1, hA1⟩ : ∃ A1_, A1_ = (if c0 = a1.toNat then A0 else A0.map (·.add (a1.toNat * 1))) := ⟨_, rfl⟩
  obtain ⟨c1, hc1⟩ : ∃ c1_, c1_ = c0 - a1.toNat := ⟨_, rfl⟩
  replace hr : Kd.C (Kd.int .u8) w A1 (l0.drop a1.toNat).length (l0.drop a1.toNat) := by rw [hA1]; exact hr
  rw [← hA1, ← hc1, show l0.length - a1.toNat = (l0.drop a1.toNat).length by rw [List.length_drop]] at hcut
  have hc2 : (l0.drop a1.toNat).length ≤ c1 := by rw [List.length_drop, hc1]; omega
  generalize l0.drop a1.toNat = y at *
  have HR := Aside0.mk hr; have HC := Aside0.mk hc2; clear hr hc2 hr0 hc0 hA1 hc1 hi0 hsz
  have hb0 : decide (a1 < 0) = false := decide_eq_false (by omega)
  have hb1 : decide ((l0.length : Int) ≤ a1) = false := decide_eq_false (by omega)
  have k0 := utf_fn0; have k1 := utf_fn1; have k2 := utf_fn2; have k3 := utf_fn3
  have E1 := Aside0.mk e1; clear e1; have E2 := Aside0.mk e2; clear e2
  go_enter Tryd.func22, Tryd.ntmps22
  go_wp2
  refine wp_loop_rounds 5 ?_
  rw [rounds_succ]
  go_wp2_with (go_at_call 29; (with_reducible refine (utf_part_one.calls 10 A1 c1 y p1 false _ HR.out HC.out E1.out).mono ?_); rintro e w' ⟨rfl, ⟨n1, rfl⟩⟩)
  rw [rounds_succ]
  go_wp2_with (go_at_call 30; (with_reducible refine (utf_way2 A1 c1 y p2 true _ ?s2 HC.out E2.out).mono ?_); (case s2 => exact Kd.C_drewN HR.out _); rintro e w2 ⟨rfl, hb2⟩; have HB2 := Aside0.mk (below_step (pw_below_drewN (Below.refl w.heap.size w) n1) hb2); clear hb2)
  go_ret2
  exact ⟨rfl, HB2.out⟩
set_option maxHeartbeats 1600000 in
set_option maxRecDepth 100000 in
theorem utf_Next.at3 (A0 : Option Addr) (c0 : Nat) (l0 : List Int) (a1 : Int) (w : World) (hr0 : Kd.C (Kd.int .u8) w A0 l0.length l0) (hc0 : l0.length ≤ c0) (h0 : 0 ≤ a1) (h1 : a1 < (l0.length : Int)) (p1 : Int) (p2 : Int) (p3 : Int) (e1 : utf_part_one.f 10 (l0.drop a1.toNat) = some (p1, false)) (e2 : utf_part_of.f 10 (l0.drop a1.toNat) 2 192 = some (p2, false)) (e3 : utf_part_of.f 10 (l0.drop a1.toNat) 3 224 = some (p3, true)) :
    Calls Tryd.prog 22 #[.slice A0 l0.length c0, .int .i64 a1] w fun e w' => e = .returned (.tuple #[.int .i64 p3, .int .i64 3]) ∧ Below w.heap.size w w' := by
  obtain ⟨i0, hi0, _, hsz, _⟩ := info_parts info5
  have hcut := cut_from (P := Tryd.prog) 22 5 .i64 Tryd.underlying22 hi0 1 hsz A0 l0.length c0 a1 h0 (by omega)
  have hr := Kd.C_drop (m := a1.toNat) hr0 (by omega) hc0
  obtain ⟨A1, hA1⟩ : ∃ A1_, A1_ = (if c0 = a1.toNat then A0 else A0.map (·.add (a1.toNat * 1))) := ⟨_, rfl⟩
  obtain ⟨c1, hc1⟩ : ∃ c1_, c1_ = c0 - a1.toNat := ⟨_, rfl⟩
  replace hr : Kd.C (Kd.int .u8) w A1 (l0.drop a1.toNat).length (l0.drop a1.toNat) := by rw [hA1]; exact hr
  rw [← hA1, ← hc1, show l0.length - a1.toNat = (l0.drop a1.toNat).length by rw [List.length_drop]] at hcut
  have hc2 : (l0.drop a1.toNat).length ≤ c1 := by rw [List.length_drop, hc1]; omega
  generalize l0.drop a1.toNat = y at *
  have HR := Aside0.mk hr; have HC := Aside0.mk hc2; clear hr hc2 hr0 hc0 hA1 hc1 hi0 hsz
  have hb0 : decide (a1 < 0) = false := decide_eq_false (by omega)
  have hb1 : decide ((l0.length : Int) ≤ a1) = false := decide_eq_false (by omega)
  have k0 := utf_fn0; have k1 := utf_fn1; have k2 := utf_fn2; have k3 := utf_fn3
  have E1 := Aside0.mk e1; clear e1; have E2 := Aside0.mk e2; clear e2; have E3 := Aside0.mk e3; clear e3
  go_enter Tryd.func22, Tryd.ntmps22
  go_wp2
  refine wp_loop_rounds 5 ?_
  rw [rounds_succ]
  go_wp2_with (go_at_call 29; (with_reducible refine (utf_part_one.calls 10 A1 c1 y p1 false _ HR.out HC.out E1.out).mono ?_); rintro e w' ⟨rfl, ⟨n1, rfl⟩⟩)
  rw [rounds_succ]
  go_wp2_with (go_at_call 30; (with_reducible refine (utf_way2 A1 c1 y p2 false _ ?s2 HC.out E2.out).mono ?_); (case s2 => exact Kd.C_drewN HR.out _); rintro e w2 ⟨rfl, hb2⟩; have HB2 := Aside0.mk (below_step (pw_below_drewN (Below.refl w.heap.size w) n1) hb2); clear hb2)
  rw [rounds_succ]
  go_wp2_with (go_at_call 31; (with_reducible refine (utf_way3 A1 c1 y p3 true _ ?s3 HC.out E3.out).mono ?_); (case s3 => exact Kd.C_below HR.out HB2.out); rintro e w3 ⟨rfl, hb3⟩; have HB3 := Aside0.mk (below_step HB2.out hb3); clear hb3)
  go_ret2
  exact ⟨rfl, HB3.out⟩
set_option maxHeartbeats 1600000 in
set_option maxRecDepth 100000 in
theorem utf_Next.at4 (A0 : Option Addr) (c0 : Nat) (l0 : List Int) (a1 : Int) (w : World) (hr0 : Kd.C (Kd.int .u8) w A0 l0.length l0) (hc0 : l0.length ≤ c0) (h0 : 0 ≤ a1) (h1 : a1 < (l0.length : Int)) (p1 : Int) (p2 : Int) (p3 : Int) (p4 : Int) (e1 : utf_part_one.f 10 (l0.drop a1.toNat) = some (p1, false)) (e2 : utf_part_of.f 10 (l0.drop a1.toNat) 2 192 = some (p2, false)) (e3 : utf_part_of.f 10 (l0.drop a1.toNat) 3 224 = some (p3, false)) (e4 : utf_part_of.f 10 (l0.drop a1.toNat) 4 240 = some (p4, true)) :
    Calls Tryd.prog 22 #[.slice A0 l0.length c0, .int .i64 a1] w fun e w' => e = .returned (.tuple #[.int .i64 p4, .int .i64 4]) ∧ Below w.heap.size w w' := by
  obtain ⟨i0, hi0, _, hsz, _⟩ := info_parts info5
  have hcut := cut_from (P := Tryd.prog) 22 5 .i64 Tryd.underlying22 hi0 1 hsz A0 l0.length c0 a1 h0 (by omega)
  have hr := Kd.C_drop (m := a1.toNat) hr0 (by omega) hc0
  obtain ⟨A1, hA1⟩ : ∃ A1_, A1_ = (if c0 = a1.toNat then A0 else A0.map (·.add (a1.toNat * 1))) := ⟨_, rfl⟩
  obtain ⟨c1, hc1⟩ : ∃ c1_, c1_ = c0 - a1.toNat := ⟨_, rfl⟩
  replace hr : Kd.C (Kd.int .u8) w A1 (l0.drop a1.toNat).length (l0.drop a1.toNat) := by rw [hA1]; exact hr
  rw [← hA1, ← hc1, show l0.length - a1.toNat = (l0.drop a1.toNat).length by rw [List.length_drop]] at hcut
  have hc2 : (l0.drop a1.toNat).length ≤ c1 := by rw [List.length_drop, hc1]; omega
  generalize l0.drop a1.toNat = y at *
  have HR := Aside0.mk hr; have HC := Aside0.mk hc2; clear hr hc2 hr0 hc0 hA1 hc1 hi0 hsz
  have hb0 : decide (a1 < 0) = false := decide_eq_false (by omega)
  have hb1 : decide ((l0.length : Int) ≤ a1) = false := decide_eq_false (by omega)
  have k0 := utf_fn0; have k1 := utf_fn1; have k2 := utf_fn2; have k3 := utf_fn3
  have E1 := Aside0.mk e1; clear e1; have E2 := Aside0.mk e2; clear e2; have E3 := Aside0.mk e3; clear e3; have E4 := Aside0.mk e4; clear e4
  go_enter Tryd.func22, Tryd.ntmps22
  go_wp2
  refine wp_loop_rounds 5 ?_
  rw [rounds_succ]
  go_wp2_with (go_at_call 29; (with_reducible refine (utf_part_one.calls 10 A1 c1 y p1 false _ HR.out HC.out E1.out).mono ?_); rintro e w' ⟨rfl, ⟨n1, rfl⟩⟩)
  rw [rounds_succ]
  go_wp2_with (go_at_call 30; (with_reducible refine (utf_way2 A1 c1 y p2 false _ ?s2 HC.out E2.out).mono ?_); (case s2 => exact Kd.C_drewN HR.out _); rintro e w2 ⟨rfl, hb2⟩; have HB2 := Aside0.mk (below_step (pw_below_drewN (Below.refl w.heap.size w) n1) hb2); clear hb2)
  rw [rounds_succ]
  go_wp2_with (go_at_call 31; (with_reducible refine (utf_way3 A1 c1 y p3 false _ ?s3 HC.out E3.out).mono ?_); (case s3 => exact Kd.C_below HR.out HB2.out); rintro e w3 ⟨rfl, hb3⟩; have HB3 := Aside0.mk (below_step HB2.out hb3); clear hb3)
  rw [rounds_succ]
  go_wp2_with (go_at_call 32; (with_reducible refine (utf_way4 A1 c1 y p4 true _ ?s4 HC.out E4.out).mono ?_); (case s4 => exact Kd.C_below HR.out HB3.out); rintro e w4 ⟨rfl, hb4⟩; have HB4 := Aside0.mk (below_step HB3.out hb4); clear hb4)
  go_ret2
  exact ⟨rfl, HB4.out⟩
set_option maxHeartbeats 1600000 in
set_option maxRecDepth 100000 in
theorem utf_Next.at5 (A0 : Option Addr) (c0 : Nat) (l0 : List Int) (a1 : Int) (w : World) (hr0 : Kd.C (Kd.int .u8) w A0 l0.length l0) (hc0 : l0.length ≤ c0) (h0 : 0 ≤ a1) (h1 : a1 < (l0.length : Int)) (p1 : Int) (p2 : Int) (p3 : Int) (p4 : Int) (e1 : utf_part_one.f 10 (l0.drop a1.toNat) = some (p1, false)) (e2 : utf_part_of.f 10 (l0.drop a1.toNat) 2 192 = some (p2, false)) (e3 : utf_part_of.f 10 (l0.drop a1.toNat) 3 224 = some (p3, false)) (e4 : utf_part_of.f 10 (l0.drop a1.toNat) 4 240 = some (p4, false)) :
    Calls Tryd.prog 22 #[.slice A0 l0.length c0, .int .i64 a1] w fun e w' => e = .returned (.tuple #[.int .i64 (-1), .int .i64 1]) ∧ Below w.heap.size w w' := by
  obtain ⟨i0, hi0, _, hsz, _⟩ := info_parts info5
  have hcut := cut_from (P := Tryd.prog) 22 5 .i64 Tryd.underlying22 hi0 1 hsz A0 l0.length c0 a1 h0 (by omega)
  have hr := Kd.C_drop (m := a1.toNat) hr0 (by omega) hc0
  obtain ⟨A1, hA1⟩ : ∃ A1_, A1_ = (if c0 = a1.toNat then A0 else A0.map (·.add (a1.toNat * 1))) := ⟨_, rfl⟩
  obtain ⟨c1, hc1⟩ : ∃ c1_, c1_ = c0 - a1.toNat := ⟨_, rfl⟩
  replace hr : Kd.C (Kd.int .u8) w A1 (l0.drop a1.toNat).length (l0.drop a1.toNat) := by rw [hA1]; exact hr
  rw [← hA1, ← hc1, show l0.length - a1.toNat = (l0.drop a1.toNat).length by rw [List.length_drop]] at hcut
  have hc2 : (l0.drop a1.toNat).length ≤ c1 := by rw [List.length_drop, hc1]; omega
  generalize l0.drop a1.toNat = y at *
  have HR := Aside0.mk hr; have HC := Aside0.mk hc2; clear hr hc2 hr0 hc0 hA1 hc1 hi0 hsz
  have hb0 : decide (a1 < 0) = false := decide_eq_false (by omega)
  have hb1 : decide ((l0.length : Int) ≤ a1) = false := decide_eq_false (by omega)
  have k0 := utf_fn0; have k1 := utf_fn1; have k2 := utf_fn2; have k3 := utf_fn3
  have E1 := Aside0.mk e1; clear e1; have E2 := Aside0.mk e2; clear e2; have E3 := Aside0.mk e3; clear e3; have E4 := Aside0.mk e4; clear e4
  go_enter Tryd.func22, Tryd.ntmps22
  go_wp2
  refine wp_loop_rounds 5 ?_
  rw [rounds_succ]
  go_wp2_with (go_at_call 29; (with_reducible refine (utf_part_one.calls 10 A1 c1 y p1 false _ HR.out HC.out E1.out).mono ?_); rintro e w' ⟨rfl, ⟨n1, rfl⟩⟩)
  rw [rounds_succ]
  go_wp2_with (go_at_call 30; (with_reducible refine (utf_way2 A1 c1 y p2 false _ ?s2 HC.out E2.out).mono ?_); (case s2 => exact Kd.C_drewN HR.out _); rintro e w2 ⟨rfl, hb2⟩; have HB2 := Aside0.mk (below_step (pw_below_drewN (Below.refl w.heap.size w) n1) hb2); clear hb2)
  rw [rounds_succ]
  go_wp2_with (go_at_call 31; (with_reducible refine (utf_way3 A1 c1 y p3 false _ ?s3 HC.out E3.out).mono ?_); (case s3 => exact Kd.C_below HR.out HB2.out); rintro e w3 ⟨rfl, hb3⟩; have HB3 := Aside0.mk (below_step HB2.out hb3); clear hb3)
  rw [rounds_succ]
  go_wp2_with (go_at_call 32; (with_reducible refine (utf_way4 A1 c1 y p4 false _ ?s4 HC.out E4.out).mono ?_); (case s4 => exact Kd.C_below HR.out HB3.out); rintro e w4 ⟨rfl, hb4⟩; have HB4 := Aside0.mk (below_step HB3.out hb4); clear hb4)
  rw [rounds_succ]
  go_wp2
  go_ret2
  exact ⟨rfl, HB4.out⟩
theorem utf_Next.calls (A0 : Option Addr) (c0 : Nat) (l0 : List Int) (a1 : Int) (r1 r2 : Int) (w : World) (hr0 : Kd.C (Kd.int .u8) w A0 l0.length l0) (hc0 : l0.length ≤ c0) (h : utf_Next.f l0 a1 = some (r1, r2)) :
    Calls Tryd.prog 22 #[.slice A0 l0.length c0, .int .i64 a1] w fun e w' => e = .returned (.tuple #[.int .i64 r1, .int .i64 r2]) ∧ Below w.heap.size w w' := by
  unfold utf_Next.f at h
  by_cases c1 : a1 < 0
  · rw [if_pos c1] at h
    simp only [Option.some.injEq, Prod.mk.injEq] at h
    obtain ⟨rfl, rfl⟩ := h
    clear hr0
    go_enter Tryd.func22, Tryd.ntmps22
    go_wp2
    go_ret2
    exact ⟨rfl, Below.refl _ _⟩
  · rw [if_neg c1] at h
    by_cases c2 : a1 ≥ (l0.length : Int)
    · rw [if_pos c2] at h
      simp only [Option.some.injEq, Prod.mk.injEq] at h
      obtain ⟨rfl, rfl⟩ := h
      clear hr0
      have hb0 : decide (a1 < 0) = false := decide_eq_false (by omega)
      have hb1 : decide ((l0.length : Int) ≤ a1) = true := decide_eq_true (by omega)
      go_enter Tryd.func22, Tryd.ntmps22
      go_wp2
      go_ret2
      exact ⟨rfl, Below.refl _ _⟩
    · rw [if_neg c2] at h
      obtain ⟨⟨p1, b1⟩, e1, h⟩ := Option.bind_eq_some_iff.mp h
      cases b1 with
      | true =>
        simp only [if_true, Option.some.injEq, Prod.mk.injEq] at h
        obtain ⟨rfl, rfl⟩ := h
        exact utf_Next.at1 A0 c0 l0 a1 w hr0 hc0 (by omega) (by omega) p1 e1
      | false =>
        simp only [Bool.false_eq_true, if_false] at h
        obtain ⟨⟨p2, b2⟩, e2, h⟩ := Option.bind_eq_some_iff.mp h
        cases b2 with
        | true =>
          simp only [if_true, Option.some.injEq, Prod.mk.injEq] at h
          obtain ⟨rfl, rfl⟩ := h
          exact utf_Next.at2 A0 c0 l0 a1 w hr0 hc0 (by omega) (by omega) p1 p2 e1 e2
        | false =>
          simp only [Bool.false_eq_true, if_false] at h
          obtain ⟨⟨p3, b3⟩, e3, h⟩ := Option.bind_eq_some_iff.mp h
          cases b3 with
          | true =>
            simp only [if_true, Option.some.injEq, Prod.mk.injEq] at h
            obtain ⟨rfl, rfl⟩ := h
            exact utf_Next.at3 A0 c0 l0 a1 w hr0 hc0 (by omega) (by omega) p1 p2 p3 e1 e2 e3
          | false =>
            simp only [Bool.false_eq_true, if_false] at h
            obtain ⟨⟨p4, b4⟩, e4, h⟩ := Option.bind_eq_some_iff.mp h
            cases b4 with
            | true =>
              simp only [if_true, Option.some.injEq, Prod.mk.injEq] at h
              obtain ⟨rfl, rfl⟩ := h
              exact utf_Next.at4 A0 c0 l0 a1 w hr0 hc0 (by omega) (by omega) p1 p2 p3 p4 e1 e2 e3 e4
            | false =>
              simp only [Bool.false_eq_true, if_false, Option.some.injEq, Prod.mk.injEq] at h
              obtain ⟨rfl, rfl⟩ := h
              exact utf_Next.at5 A0 c0 l0 a1 w hr0 hc0 (by omega) (by omega) p1 p2 p3 p4 e1 e2 e3 e4

/-! ### lines_Col: function 20 -/
mutual
def lines_Col.j0 : Nat → List Int → Int → Int → Bool → Option (Int)
  | 0, _, _, _, _ => none
  | k + 1, x0, x1, x2, x22 => if x22 = true then (some (-1)) else ((lines_Begin.f k x0 x1).bind fun t121 => (lines_Col.l0 k x0 x1 x2 0 t121))
def lines_Col.l0 : Nat → List Int → Int → Int → Int → Int → Option (Int)
  | 0, _, _, _, _, _ => none
  | k + 1, x0, x1, x2, x7, x8 => if x8 < x1 then ((utf_Next.f x0 x8).bind fun bt122 => (if (wrap64 (x8 + bt122.2)) > x1 then (some x7) else (if 0 ≤ x8 then (if x8 < (x0.length : Int) then (if (rd x0 x8) = 9 then (if x2 = 0 then (none) else (lines_Col.l0 k x0 x1 x2 (wrap64 (x7 + (wrap64 (x2 - (Int.tmod x7 x2))))) (wrap64 (x8 + bt122.2)))) else (lines_Col.l0 k x0 x1 x2 (wrap64 (x7 + 1)) (wrap64 (x8 + bt122.2)))) else (none)) else (none)))) else (some x7)
end
def lines_Col.f (k : Nat) (l0 : List Int) (a1 : Int) (a2 : Int) : Option (Int) := (lines_place.f l0 a1).bind fun t120 => (if t120 = true then (if a2 < 1 then (lines_Col.j0 k l0 a1 a2 true) else (lines_Col.j0 k l0 a1 a2 (decide (a2 > 16)))) else (lines_Col.j0 k l0 a1 a2 true))
theorem lines_Col.mono_l : ∀ k, (∀ y0 y1 y2 y3, LeO (lines_Col.j0 k y0 y1 y2 y3) (lines_Col.j0 (k + 1) y0 y1 y2 y3)) ∧ (∀ y0 y1 y2 y3 y4, LeO (lines_Col.l0 k y0 y1 y2 y3 y4) (lines_Col.l0 (k + 1) y0 y1 y2 y3 y4))
  | 0 => ⟨fun _ _ _ _ r h => by simp [lines_Col.j0] at h, fun _ _ _ _ _ r h => by simp [lines_Col.l0] at h⟩
  | k + 1 => by
    obtain ⟨ih0, ih1⟩ := lines_Col.mono_l k
    refine ⟨?_, ?_⟩
    · intro y0 y1 y2 y3
      unfold lines_Col.j0
      repeat' first
      | (with_reducible exact ih0 _ _ _ _)
      | (with_reducible exact ih1 _ _ _ _ _)
      | (with_reducible exact lines_Begin.mono _ _ _)
      | (with_reducible exact LeO.refl _)
      | (with_reducible exact LeO.none _)
      | (with_reducible refine LeO.ite ?_ ?_)
      | (with_reducible refine LeO.bind ?_ (fun _ => ?_))
      | exact ih0 _ _ _ _
      | exact ih1 _ _ _ _ _
      | exact lines_Begin.mono _ _ _
      | exact LeO.none _
      | refine LeO.ite ?_ ?_
      | refine LeO.bind ?_ (fun _ => ?_)
    · intro y0 y1 y2 y3 y4
      unfold lines_Col.l0
      repeat' first
      | (with_reducible exact ih0 _ _ _ _)
      | (with_reducible exact ih1 _ _ _ _ _)
      | (with_reducible exact lines_Begin.mono _ _ _)
      | (with_reducible exact LeO.refl _)
      | (with_reducible exact LeO.none _)
      | (with_reducible refine LeO.ite ?_ ?_)
      | (with_reducible refine LeO.bind ?_ (fun _ => ?_))
      | exact ih0 _ _ _ _
      | exact ih1 _ _ _ _ _
      | exact lines_Begin.mono _ _ _
      | exact LeO.none _
      | refine LeO.ite ?_ ?_
      | refine LeO.bind ?_ (fun _ => ?_)
theorem lines_Col.mono : ∀ a0 a1 a2 k, LeO (lines_Col.f k a0 a1 a2) (lines_Col.f (k + 1) a0 a1 a2) := by
  intro a0 a1 a2 k
  obtain ⟨ih0, ih1⟩ := lines_Col.mono_l k
  unfold lines_Col.f
  repeat' first
      | (with_reducible exact ih0 _ _ _ _)
      | (with_reducible exact ih1 _ _ _ _ _)
      | (with_reducible exact lines_Begin.mono _ _ _)
      | (with_reducible exact LeO.refl _)
      | (with_reducible exact LeO.none _)
      | (with_reducible refine LeO.ite ?_ ?_)
      | (with_reducible refine LeO.bind ?_ (fun _ => ?_))
      | exact ih0 _ _ _ _
      | exact ih1 _ _ _ _ _
      | exact lines_Begin.mono _ _ _
      | exact LeO.none _
      | refine LeO.ite ?_ ?_
      | refine LeO.bind ?_ (fun _ => ?_)
set_option maxHeartbeats 8000000 in
set_option maxRecDepth 100000 in
theorem lines_Col.calls (k : Nat) (A0 : Option Addr) (c0 : Nat) (l0 : List Int) (a1 : Int) (a2 : Int) (r : Int) (w : World) (hr0 : Kd.C (Kd.int .u8) w A0 l0.length l0) (hc0 : l0.length ≤ c0) (h : lines_Col.f k l0 a1 a2 = some r) :
    Calls Tryd.prog 20 #[.slice A0 l0.length c0, .int .i64 a1, .int .i64 a2] w fun e w' => e = .returned (.int .i64 r) ∧ Below w.heap.size w w' := by
  have HR0 := Aside0.mk hr0
  have HC0 := Aside0.mk hc0
  clear hr0 hc0
  have HB := Aside0.mk (Below.refl w.heap.size w)
  have H : ((lines_place.f l0 a1).bind fun t120 => (if t120 = true then (if a2 < 1 then (lines_Col.j0 k l0 a1 a2 true) else (lines_Col.j0 k l0 a1 a2 (decide (a2 > 16)))) else (lines_Col.j0 k l0 a1 a2 true))) = some r := h
  clear h
  have HC4 := Aside0.mk H
  clear H
  go_enter Tryd.func20, Tryd.ntmps20
  go_upto_region 1 with (fail)
  go_cut [22] (fun v22 wc => ∃ (kq : Nat) (x22_3 : Bool), v22 = .bool x22_3 ∧ Aside0 (lines_Col.j0 kq l0 a1 a2 x22_3 = some r) ∧ Aside0 (kq ≤ k) ∧ Aside0 (Below w.heap.size w wc))
  case first =>
    have H := HC4.out
    clear HC4
    replace H := Option.bind_eq_some_iff.mp H
    obtain ⟨t120, A50, H⟩ := H
    replace H : (if t120 = true then (if a2 < 1 then (lines_Col.j0 k l0 a1 a2 true) else (lines_Col.j0 k l0 a1 a2 (decide (a2 > 16)))) else (lines_Col.j0 k l0 a1 a2 true)) = some r := H
    have A5 := Aside0.mk A50
    clear A50
    by_cases c6 : t120 = true
    · subst c6
      have H1 : (if a2 < 1 then (lines_Col.j0 k l0 a1 a2 true) else (lines_Col.j0 k l0 a1 a2 (decide (a2 > 16)))) = some r := by rw [if_pos rfl] at H; exact H
      clear H
      have H := H1
      clear H1
      by_cases c7 : a2 < 1
      · rw [if_pos c7] at H
        have c7b0 : decide (a2 < 1) = true := decide_eq_true c7
        clear c7
        (first | rw [c7b0] | (simp only [i64_w, i32_w]; rw [c7b0]) | skip)
        have H' := Aside0.mk H
        clear H
        go_wp2_with (first | ((with_reducible refine gate_callee (f := 24) rfl ?_); refine goesL_ (some 13) rfl rfl Tryd.func24 (by kernel_rfl) rfl #[.slice A0 l0.length c0, .int .i64 a1] rfl (by (try simp only [List.map_toArray, List.map_cons, List.map_nil]); first | done | rfl | (simp only [List.length_drop, List.length_take]; rfl)) ?_; (with_reducible refine (lines_place.calls _ _ l0 a1 true _ ?side1 ?side2 A5.out).mono ?_); (case side1 => repeat (first | exact (Kd.C_below HR0.out HB.out) | (with_reducible refine Kd.C_alloc ?_ _) | (with_reducible refine Kd.C_drewN ?_ _) | (with_reducible refine Kd.C_drew ?_))); (case side2 => exact HC0.out); rintro e w' ⟨rfl, ⟨nd, rfl⟩⟩; refine ⟨_, rfl, ?_⟩))
        go_meet
        case rel => exact ⟨_, (true), (by first | rfl | (simp; done) | (simp [*]; done)), H', ⟨by first | omega | exact Nat.le_refl _⟩, ⟨by repeat (first | (with_reducible first | exact HB.out | apply below_alloc | apply pw_below_drewN | apply below_drew1) | exact HB.out)⟩⟩
      · rw [if_neg c7] at H
        have c7b0 : decide (a2 < 1) = false := decide_eq_false c7
        clear c7
        (first | rw [c7b0] | (simp only [i64_w, i32_w]; rw [c7b0]) | skip)
        have H' := Aside0.mk H
        clear H
        go_wp2_with (first | ((with_reducible refine gate_callee (f := 24) rfl ?_); refine goesL_ (some 13) rfl rfl Tryd.func24 (by kernel_rfl) rfl #[.slice A0 l0.length c0, .int .i64 a1] rfl (by (try simp only [List.map_toArray, List.map_cons, List.map_nil]); first | done | rfl | (simp only [List.length_drop, List.length_take]; rfl)) ?_; (with_reducible refine (lines_place.calls _ _ l0 a1 true _ ?side1 ?side2 A5.out).mono ?_); (case side1 => repeat (first | exact (Kd.C_below HR0.out HB.out) | (with_reducible refine Kd.C_alloc ?_ _) | (with_reducible refine Kd.C_drewN ?_ _) | (with_reducible refine Kd.C_drew ?_))); (case side2 => exact HC0.out); rintro e w' ⟨rfl, ⟨nd, rfl⟩⟩; refine ⟨_, rfl, ?_⟩))
        go_meet
        case rel => exact ⟨_, (decide (a2 > 16)), (by first | rfl | (simp; done) | (simp [*]; done)), H', ⟨by first | omega | exact Nat.le_refl _⟩, ⟨by repeat (first | (with_reducible first | exact HB.out | apply below_alloc | apply pw_below_drewN | apply below_drew1) | exact HB.out)⟩⟩
    · replace c6 := Bool.eq_false_iff.mpr c6
      subst c6
      have H1 : (lines_Col.j0 k l0 a1 a2 true) = some r := by rw [if_neg (show ¬ (false = true) by decide)] at H; exact H
      clear H
      have H := H1
      clear H1
      have H' := Aside0.mk H
      clear H
      go_wp2_with (first | ((with_reducible refine gate_callee (f := 24) rfl ?_); refine goesL_ (some 13) rfl rfl Tryd.func24 (by kernel_rfl) rfl #[.slice A0 l0.length c0, .int .i64 a1] rfl (by (try simp only [List.map_toArray, List.map_cons, List.map_nil]); first | done | rfl | (simp only [List.length_drop, List.length_take]; rfl)) ?_; (with_reducible refine (lines_place.calls _ _ l0 a1 false _ ?side1 ?side2 A5.out).mono ?_); (case side1 => repeat (first | exact (Kd.C_below HR0.out HB.out) | (with_reducible refine Kd.C_alloc ?_ _) | (with_reducible refine Kd.C_drewN ?_ _) | (with_reducible refine Kd.C_drew ?_))); (case side2 => exact HC0.out); rintro e w' ⟨rfl, ⟨nd, rfl⟩⟩; refine ⟨_, rfl, ?_⟩))
      go_meet
      case rel => exact ⟨_, (true), (by first | rfl | (simp; done) | (simp [*]; done)), H', ⟨by first | omega | exact Nat.le_refl _⟩, ⟨by repeat (first | (with_reducible first | exact HB.out | apply below_alloc | apply pw_below_drewN | apply below_drew1) | exact HB.out)⟩⟩
  case rest =>
    clear HC4
    try clear c2
    try clear p2
    try clear c6
    try clear c7
    try clear c7b0
    obtain ⟨kq, x22_3, rfl, HA, HJ3, HB⟩ := hcut
    cases kq with
    | zero => exact absurd HA.out (by simp [lines_Col.j0])
    | succ kj3 =>
      have H := HA.out
      clear HA
      simp only [lines_Col.j0] at H
      by_cases c8 : x22_3 = true
      · subst c8
        have H1 : (some (-1)) = some r := by rw [if_pos rfl] at H; exact H
        clear H
        have H := H1
        clear H1
        obtain rfl := Option.some.inj H
        go_wp2
        go_ret
        exact ⟨by first | rfl | (simp [errW_none, errW_some] <;> rfl) | (simp [*, errW_none, errW_some] <;> rfl), by repeat (first | (with_reducible first | exact HB.out | apply below_alloc | apply pw_below_drewN | apply below_drew1) | exact HB.out)⟩
      · replace c8 := Bool.eq_false_iff.mpr c8
        subst c8
        have H1 : ((lines_Begin.f kj3 l0 a1).bind fun t121 => (lines_Col.l0 kj3 l0 a1 a2 0 t121)) = some r := by rw [if_neg (show ¬ (false = true) by decide)] at H; exact H
        clear H
        have H := H1
        clear H1
        replace H := Option.bind_eq_some_iff.mp H
        obtain ⟨t121, A90, H⟩ := H
        replace H : (lines_Col.l0 kj3 l0 a1 a2 0 t121) = some r := H
        have A9 := Aside0.mk A90
        clear A90
        have H' := Aside0.mk H
        clear H
        go_wp2_with (first | ((with_reducible refine gate_callee (f := 14) rfl ?_); refine goesL_ (some 25) rfl rfl Tryd.func14 (by kernel_rfl) rfl #[.slice A0 l0.length c0, .int .i64 a1] rfl (by (try simp only [List.map_toArray, List.map_cons, List.map_nil]); first | done | rfl | (simp only [List.length_drop, List.length_take]; rfl)) ?_; (with_reducible refine (lines_Begin.calls kj3 _ _ l0 a1 t121 _ ?side1 ?side2 A9.out).mono ?_); (case side1 => repeat (first | exact (Kd.C_below HR0.out HB.out) | (with_reducible refine Kd.C_alloc ?_ _) | (with_reducible refine Kd.C_drewN ?_ _) | (with_reducible refine Kd.C_drew ?_))); (case side2 => exact HC0.out); rintro e w' ⟨rfl, ⟨nd, rfl⟩⟩; refine ⟨_, rfl, ?_⟩))
        go_loopg [7, 8] kj3 (fun kq v7 v8 w' => ∃ (x7_2 : Int) (x8_2 : Int), v7 = .int .i64 x7_2 ∧ v8 = .int .i64 x8_2 ∧ Aside0 (lines_Col.l0 kq l0 a1 a2 x7_2 x8_2 = some r) ∧ Aside0 (kq ≤ kj3) ∧ Aside0 (Below w.heap.size w w'))
        case atStart => exact ⟨(0), (t121), (by first | rfl | (simp; done) | (simp [*]; done)), (by first | rfl | (simp; done) | (simp [*]; done)), H', ⟨Nat.le_refl _⟩, ⟨by repeat (first | (with_reducible first | exact HB.out | apply below_alloc | apply pw_below_drewN | apply below_drew1) | exact HB.out)⟩⟩
        case round =>
          clear H'
          try clear c1
          try clear c2
          try clear p2
          try clear c6
          try clear c7
          try clear c7b0
          try clear c8
          try clear p2
          obtain ⟨x7_2, x8_2, rfl, rfl, HA, HK2, HB⟩ := hrel
          cases gk with
          | zero => exact absurd HA.out (by simp [lines_Col.l0])
          | succ k2 =>
            have H := HA.out
            clear HA
            simp only [lines_Col.l0] at H
            by_cases c10 : x8_2 < a1
            · rw [if_pos c10] at H
              have c10b0 : decide (x8_2 < a1) = true := decide_eq_true c10
              clear c10
              replace H := Option.bind_eq_some_iff.mp H
              obtain ⟨⟨t122, t123⟩, A110, H⟩ := H
              replace H : (if (wrap64 (x8_2 + t123)) > a1 then (some x7_2) else (if 0 ≤ x8_2 then (if x8_2 < (l0.length : Int) then (if (rd l0 x8_2) = 9 then (if a2 = 0 then (none) else (lines_Col.l0 k2 l0 a1 a2 (wrap64 (x7_2 + (wrap64 (a2 - (Int.tmod x7_2 a2))))) (wrap64 (x8_2 + t123)))) else (lines_Col.l0 k2 l0 a1 a2 (wrap64 (x7_2 + 1)) (wrap64 (x8_2 + t123)))) else (none)) else (none))) = some r := H
              have A11 := Aside0.mk A110
              clear A110
              by_cases c12 : (wrap64 (x8_2 + t123)) > a1
              · rw [if_pos c12] at H
                have c12b0 : decide (a1 < (wrap64 (x8_2 + t123))) = true := decide_eq_true c12
                clear c12
                obtain rfl := Option.some.inj H
                go_wp2_with (first | ((with_reducible refine gate_callee (f := 22) rfl ?_); refine goesL_ (some 32) rfl rfl Tryd.func22 (by kernel_rfl) rfl #[.slice A0 l0.length c0, .int .i64 x8_2] rfl (by (try simp only [List.map_toArray, List.map_cons, List.map_nil]); first | done | rfl | (simp only [List.length_drop, List.length_take]; rfl)) ?_; (with_reducible refine (utf_Next.calls _ _ l0 x8_2 t122 t123 _ ?side1 ?side2 A11.out).mono ?_); (case side1 => repeat (first | exact (Kd.C_below HR0.out HB.out) | (with_reducible refine Kd.C_alloc ?_ _) | (with_reducible refine Kd.C_drewN ?_ _) | (with_reducible refine Kd.C_drew ?_))); (case side2 => exact HC0.out); rintro e w13 ⟨rfl, hb⟩; refine ⟨_, rfl, ?_⟩; have n0_ := Aside0.mk (below_step (by repeat (first | (with_reducible first | exact HB.out | apply below_alloc | apply pw_below_drewN | apply below_drew1) | exact HB.out)) hb); clear HB; have HB := n0_; clear n0_; (try clear hb); (try clear hb2); (try clear hk); (try clear hi)))
                go_ret
                exact ⟨by first | rfl | (simp [errW_none, errW_some] <;> rfl) | (simp [*, errW_none, errW_some] <;> rfl), by repeat (first | (with_reducible first | exact HB.out | apply below_alloc | apply pw_below_drewN | apply below_drew1) | exact HB.out)⟩
              · rw [if_neg c12] at H
                have c12b0 : decide (a1 < (wrap64 (x8_2 + t123))) = false := decide_eq_false c12
                clear c12
                by_cases c14 : 0 ≤ x8_2
                · rw [if_pos c14] at H
                  have c14b0 : decide (0 ≤ x8_2) = true := decide_eq_true c14
                  clear c14
                  by_cases c15 : x8_2 < (l0.length : Int)
                  · rw [if_pos c15] at H
                    have c15b0 : decide (x8_2 < (l0.length : Int)) = true := decide_eq_true c15
                    clear c15
                    by_cases c16 : (rd l0 x8_2) = 9
                    · rw [if_pos c16] at H
                      have c16b0 : ((rd l0 x8_2) == 9) = true := beq_iff_eq.mpr c16
                      have c16b1 : ((rd l0 x8_2) != 9) = false := bne_eq_false_iff_eq.mpr c16
                      clear c16
                      by_cases c17 : a2 = 0
                      · rw [if_pos c17] at H
                        exact absurd H (by simp)
                      · rw [if_neg c17] at H
                        have c17b0 : (a2 == 0) = false := beq_eq_false_iff_ne.mpr c17
                        have c17b1 : (a2 != 0) = true := bne_iff_ne.mpr c17
                        have H' := Aside0.mk H
                        clear H
                        go_wp2_with (first | ((with_reducible refine gate_callee (f := 22) rfl ?_); refine goesL_ (some 32) rfl rfl Tryd.func22 (by kernel_rfl) rfl #[.slice A0 l0.length c0, .int .i64 x8_2] rfl (by (try simp only [List.map_toArray, List.map_cons, List.map_nil]); first | done | rfl | (simp only [List.length_drop, List.length_take]; rfl)) ?_; (with_reducible refine (utf_Next.calls _ _ l0 x8_2 t122 t123 _ ?side1 ?side2 A11.out).mono ?_); (case side1 => repeat (first | exact (Kd.C_below HR0.out HB.out) | (with_reducible refine Kd.C_alloc ?_ _) | (with_reducible refine Kd.C_drewN ?_ _) | (with_reducible refine Kd.C_drew ?_))); (case side2 => exact HC0.out); rintro e w18 ⟨rfl, hb⟩; refine ⟨_, rfl, ?_⟩; have n0_ := Aside0.mk (below_step (by repeat (first | (with_reducible first | exact HB.out | apply below_alloc | apply pw_below_drewN | apply below_drew1) | exact HB.out)) hb); clear HB; have HB := n0_; clear n0_; (try clear hb); (try clear hb2); (try clear hk); (try clear hi); have p124 : 0 ≤ (x8_2 : Int) := of_decide_eq_true (by first | (with_reducible assumption) | assumption); have q124 : x8_2 < (l0.length : Int) := of_decide_eq_true (by first | (with_reducible assumption) | assumption); obtain ⟨ad124, e124, hx124_0⟩ := Kd.at_int HR0.out x8_2 p124 q124; cases e124; replace hx124_0 := (HB.out.cell (World.block_lt_of_cell? w _ hx124_0)).trans hx124_0; replace p124 := eq_true p124; replace q124 := eq_true q124))
                        go_roundg k2
                        case measure => have := HJ3.out; have := HK2.out; omega
                        case rel => exact ⟨(wrap64 (x7_2 + (wrap64 (a2 - (Int.tmod x7_2 a2))))), (wrap64 (x8_2 + t123)), (by first | rfl | (simp; done) | (simp [*]; done)), (by first | rfl | (simp; done) | (simp [*]; done)), H', ⟨by have := HJ3.out; have := HK2.out; omega⟩, ⟨by repeat (first | (with_reducible first | exact HB.out | apply below_alloc | apply pw_below_drewN | apply below_drew1) | exact HB.out)⟩⟩
                    · rw [if_neg c16] at H
                      have c16b0 : ((rd l0 x8_2) == 9) = false := beq_eq_false_iff_ne.mpr c16
                      have c16b1 : ((rd l0 x8_2) != 9) = true := bne_iff_ne.mpr c16
                      have H' := Aside0.mk H
                      clear H
                      go_wp2_with (first | ((with_reducible refine gate_callee (f := 22) rfl ?_); refine goesL_ (some 32) rfl rfl Tryd.func22 (by kernel_rfl) rfl #[.slice A0 l0.length c0, .int .i64 x8_2] rfl (by (try simp only [List.map_toArray, List.map_cons, List.map_nil]); first | done | rfl | (simp only [List.length_drop, List.length_take]; rfl)) ?_; (with_reducible refine (utf_Next.calls _ _ l0 x8_2 t122 t123 _ ?side1 ?side2 A11.out).mono ?_); (case side1 => repeat (first | exact (Kd.C_below HR0.out HB.out) | (with_reducible refine Kd.C_alloc ?_ _) | (with_reducible refine Kd.C_drewN ?_ _) | (with_reducible refine Kd.C_drew ?_))); (case side2 => exact HC0.out); rintro e w19 ⟨rfl, hb⟩; refine ⟨_, rfl, ?_⟩; have n0_ := Aside0.mk (below_step (by repeat (first | (with_reducible first | exact HB.out | apply below_alloc | apply pw_below_drewN | apply below_drew1) | exact HB.out)) hb); clear HB; have HB := n0_; clear n0_; (try clear hb); (try clear hb2); (try clear hk); (try clear hi); have p124 : 0 ≤ (x8_2 : Int) := of_decide_eq_true (by first | (with_reducible assumption) | assumption); have q124 : x8_2 < (l0.length : Int) := of_decide_eq_true (by first | (with_reducible assumption) | assumption); obtain ⟨ad124, e124, hx124_0⟩ := Kd.at_int HR0.out x8_2 p124 q124; cases e124; replace hx124_0 := (HB.out.cell (World.block_lt_of_cell? w _ hx124_0)).trans hx124_0; replace p124 := eq_true p124; replace q124 := eq_true q124))
                      go_roundg k2
                      case measure => have := HJ3.out; have := HK2.out; omega
                      case rel => exact ⟨(wrap64 (x7_2 + 1)), (wrap64 (x8_2 + t123)), (by first | rfl | (simp; done) | (simp [*]; done)), (by first | rfl | (simp; done) | (simp [*]; done)), H', ⟨by have := HJ3.out; have := HK2.out; omega⟩, ⟨by repeat (first | (with_reducible first | exact HB.out | apply below_alloc | apply pw_below_drewN | apply below_drew1) | exact HB.out)⟩⟩
                  · rw [if_neg c15] at H
                    exact absurd H (by simp)
                · rw [if_neg c14] at H
                  exact absurd H (by simp)
            · rw [if_neg c10] at H
              have c10b0 : decide (x8_2 < a1) = false := decide_eq_false c10
              clear c10
              obtain rfl := Option.some.inj H
              go_wp2
              go_ret
              exact ⟨by first | rfl | (simp [errW_none, errW_some] <;> rfl) | (simp [*, errW_none, errW_some] <;> rfl), by repeat (first | (with_reducible first | exact HB.out | apply below_alloc | apply pw_below_drewN | apply below_drew1) | exact HB.out)⟩

end Go.Proofs.YtahabdogohdjeaaDoor.All
