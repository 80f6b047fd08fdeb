/- Texts of the claim TermTells, merged, without what it does not use. -/
import Derived.Test.YtcdahnkdongmdaaZTermTellsX1
namespace Go.Proofs.Ytcdahnkdongmdaa.All
open Go.RowKit Go.Proofs.YtcdahnkdongmdaaW.PrintWords Go.Proofs.YtcdahnkdongmdaaW.PrintLast Go.Proofs.YtcdahnkdongmdaaW.PrintMore
attribute [local go_sem] max2_int min2_int max_two min_two
set_option linter.unusedVariables false
set_option linter.unusedSimpArgs false
def utf_May.f (a0 : Int) : Option (Bool) := if a0 ≥ 0 then (if a0 ≤ 1114111 then (if a0 < 55296 then (some true) else (some (decide (a0 > 57343)))) else (some false)) else (some false)
set_option maxHeartbeats 8000000 in
set_option maxRecDepth 100000 in
theorem utf_May.calls (a0 : Int) (r : Bool) (w : World) (h : utf_May.f a0 = some r) :
 Calls Try.prog 33 #[.int .i64 a0] w fun e w' => e = .returned (.bool r) ∧ Drawn0 w w' := by
 have H : (if a0 ≥ 0 then (if a0 ≤ 1114111 then (if a0 < 55296 then (some true) else (some (decide (a0 > 57343)))) else (some false)) else (some false)) = some r := h
 clear h
 by_cases c2 : a0 ≥ 0
 rotate_left
 · rw [if_neg c2] at H
   have c2b0 : decide (0 ≤ a0) = false := decide_eq_false c2
   clear c2
   obtain rfl := Option.some.inj H
   go_enter Try.func33, Try.ntmps33
   go_wp2
   go_ret
   exact ⟨by first | rfl | (simp; done) | (simp [*]; done), by repeat (first | exact Drawn0.refl _ | apply Drawn0.step)⟩
 rw [if_pos c2] at H
 have c2b0 : decide (0 ≤ a0) = true := decide_eq_true c2
 clear c2
 by_cases c3 : a0 ≤ 1114111
 rotate_left
 · rw [if_neg c3] at H
   have c3b0 : decide (a0 ≤ 1114111) = false := decide_eq_false c3
   clear c3
   obtain rfl := Option.some.inj H
   go_enter Try.func33, Try.ntmps33
   go_wp2
   go_ret
   exact ⟨by first | rfl | (simp; done) | (simp [*]; done), by repeat (first | exact Drawn0.refl _ | apply Drawn0.step)⟩
 rw [if_pos c3] at H
 have c3b0 : decide (a0 ≤ 1114111) = true := decide_eq_true c3
 clear c3
 by_cases c4 : a0 < 55296
 · rw [if_pos c4] at H
   have c4b0 : decide (a0 < 55296) = true := decide_eq_true c4
   clear c4
   obtain rfl := Option.some.inj H
   go_enter Try.func33, Try.ntmps33
   go_wp2
   go_ret
   exact ⟨by first | rfl | (simp; done) | (simp [*]; done), by repeat (first | exact Drawn0.refl _ | apply Drawn0.step)⟩
 rw [if_neg c4] at H
 have c4b0 : decide (a0 < 55296) = false := decide_eq_false c4
 clear c4
 obtain rfl := Option.some.inj H
 go_enter Try.func33, Try.ntmps33
 go_wp2
 go_ret
 exact ⟨by first | rfl | (simp; done) | (simp [*]; done), by repeat (first | exact Drawn0.refl _ | apply Drawn0.step)⟩
def utf_size.f (a0 : Int) : Option (Int) := if a0 < 128 then (some 1) else (if a0 < 2048 then (some 2) else (if a0 < 65536 then (some 3) else (some 4)))
set_option maxHeartbeats 800000 in
set_option maxRecDepth 100000 in
theorem heads_calls (w : World) : Calls Try.prog 35 #[] w fun e w' => e = .returned (.agg #[.int .i64 0, .int .i64 0, .int .i64 192, .int .i64 224, .int .i64 240]) ∧ w' = w.alloc (.cells #[.int .i64 0, .int .i64 0, .int .i64 192, .int .i64 224, .int .i64 240] 58) := by
 go_enter Try.func35, Try.ntmps35
 go_wp2
 exact bodyPost_ret (v := .agg #[.int .i64 0, .int .i64 0, .int .i64 192, .int .i64 224, .int .i64 240]) (by simp [results, Try.results35, go_sem]) rfl ⟨rfl, rfl⟩
theorem heads_at1 (W : World) : (Instr.index 58 (.agg #[.int .i64 0, .int .i64 0, .int .i64 192, .int .i64 224, .int .i64 240]) (.int .i64 1)).run Try.prog W = .ok (.int .i64 0) W := by kernel_rfl
theorem heads_at2 (W : World) : (Instr.index 58 (.agg #[.int .i64 0, .int .i64 0, .int .i64 192, .int .i64 224, .int .i64 240]) (.int .i64 2)).run Try.prog W = .ok (.int .i64 192) W := by kernel_rfl
theorem heads_at3 (W : World) : (Instr.index 58 (.agg #[.int .i64 0, .int .i64 0, .int .i64 192, .int .i64 224, .int .i64 240]) (.int .i64 3)).run Try.prog W = .ok (.int .i64 224) W := by kernel_rfl
theorem heads_at4 (W : World) : (Instr.index 58 (.agg #[.int .i64 0, .int .i64 0, .int .i64 192, .int .i64 224, .int .i64 240]) (.int .i64 4)).run Try.prog W = .ok (.int .i64 240) W := by kernel_rfl
def utf_Put.f (a0 : Int) : Option (List Int × Bool) := if mayB a0 = true then some (putOf a0, true) else some ([], false)
theorem utf_Put.same_May (a0 : Int) (w : World) (h : mayB a0 = true) : Calls Try.prog 33 #[.int .i64 a0] w fun e w' => e = .returned (.bool true) ∧ w = w' := by
 obtain ⟨h0, h1, h2⟩ := (mayB_iff a0).mp h
 clear h
 rcases h2 with h | h
 · go_enter Try.func33, Try.ntmps33
   go_wp2
   go_ret
   exact ⟨rfl, rfl⟩
 have h3 : decide (a0 < 55296) = false := decide_eq_false (by omega)
 go_enter Try.func33, Try.ntmps33
 go_wp2
 go_ret
 exact ⟨rfl, rfl⟩
theorem utf_Put.same_size (a0 n : Int) (w : World) (h : utf_size.f a0 = some n) : Calls Try.prog 34 #[.int .i64 a0] w fun e w' => e = .returned (.int .i64 n) ∧ w = w' := by
 unfold utf_size.f at h
 by_cases h1 : a0 < 128
 · rw [if_pos h1] at h
   obtain rfl := Option.some.inj h
   go_enter Try.func34, Try.ntmps34
   go_wp2
   go_ret
   exact ⟨rfl, rfl⟩
 rw [if_neg h1] at h
 by_cases h2 : a0 < 2048
 · rw [if_pos h2] at h
   obtain rfl := Option.some.inj h
   go_enter Try.func34, Try.ntmps34
   go_wp2
   go_ret
   exact ⟨rfl, rfl⟩
 rw [if_neg h2] at h
 by_cases h3 : a0 < 65536
 · rw [if_pos h3] at h
   obtain rfl := Option.some.inj h
   go_enter Try.func34, Try.ntmps34
   go_wp2
   go_ret
   exact ⟨rfl, rfl⟩
 rw [if_neg h3] at h
 obtain rfl := Option.some.inj h
 go_enter Try.func34, Try.ntmps34
 go_wp2
 go_ret
 exact ⟨rfl, rfl⟩
theorem utf_Put.make_ (n : Nat) (hn : n ≤ 4) (zs : Array Value) (hz : madeCells #[Value.int .u8 0] n = zs) (W : World) : (Instr.makeSlice 24 (.int .i64 (n : Int)) (.int .i64 (n : Int))).run Try.prog W = .ok (.slice (some ⟨W.heap.size, 0, none⟩) n n) (W.alloc (.cells zs 5)) := by
 have h := print_make (P := Try.prog) 24 5 .u8 1 Try.underlying24 info5 (by decide) n (by omega) W
 rw [hz] at h
 exact h
theorem utf_Put.made (w : World) (xs : List Int) (cs : Array Value) (hcs : cs = (encs (Value.int .u8) xs).toArray) (hm : xs.length ≤ 4) (o : Obj) (n : Nat) (hn : n = xs.length) :
 Kd.R (Kd.int .u8) 5 ((w.alloc (.cells cs 5)).alloc o) w.heap.size (fun _ => True) (.slice (some ⟨w.heap.size, 0, none⟩) n n) xs := by
 subst hcs hn
 exact Kd.R_alloc (Kd.R_of_own (h1 := fun _ => rfl) (own_lit_of w w.heap.size 5 xs (Nat.le_refl _) (by omega)) (fun _ _ => trivial)) _
set_option maxHeartbeats 800000 in
set_option maxRecDepth 100000 in
theorem utf_Put.one (a0 : Int) (w : World) (hm : mayB a0 = true) (h1 : a0 < 128) :
 Calls Try.prog 15 #[.int .i64 a0] w fun e w' => ∃ v0_ : Value, e = .returned (.tuple #[v0_, .bool true]) ∧ Kd.R (Kd.int .u8) 5 w' w.heap.size (fun _ => True) v0_ [a0] ∧ Below w.heap.size w w' := by
 have h0 := ((mayB_iff a0).mp hm).1
 have HM := Aside0.mk hm; clear hm
 have HS := Aside0.mk (show utf_size.f a0 = some 1 by unfold utf_size.f; rw [if_pos (by omega)])
 have hmk : ∀ W : World, (Instr.makeSlice 24 (.int .i64 1) (.int .i64 1)).run Try.prog W = .ok (.slice (some ⟨W.heap.size, 0, none⟩) 1 1) (W.alloc (.cells #[.int .u8 0] 5)) := utf_Put.make_ 1 (by omega) #[.int .u8 0] (by simp [madeCells, Nat.mod_one, show Array.range 1 = #[0] from by decide])
 have hix := heads_at1
 have E0 := Aside0.mk (show bits .or .i64 0 a0 % 256 = a0 by rw [i64_or0 _ (by omega) (by omega)]; omega)
 go_enter Try.func15, Try.ntmps15
 go_wp2_with (first | (go_at_call 33; (with_reducible refine (utf_Put.same_May a0 _ HM.out).mono ?_); rintro e w' ⟨rfl, rfl⟩) | (go_at_call 34; (with_reducible refine (utf_Put.same_size a0 1 _ HS.out).mono ?_); rintro e w' ⟨rfl, rfl⟩))
 refine wp_loop_rounds 1 ?_
 rw [rounds_succ]
 go_wp2_with (go_at_call 35; (with_reducible refine (heads_calls _).mono ?_); rintro e w' ⟨rfl, rfl⟩)
 go_ret2
 exact ⟨_, rfl, utf_Put.made w [a0] _ (by rw [E0.out]; rfl) (by simp) _ 1 rfl, ((Below.refl _ _).alloc (Nat.le_refl _) _).alloc (by simp) _⟩
set_option maxHeartbeats 800000 in
set_option maxRecDepth 100000 in
theorem utf_Put.two (a0 : Int) (w : World) (hm : mayB a0 = true) (h1 : 128 ≤ a0) (h2 : a0 < 2048) :
 Calls Try.prog 15 #[.int .i64 a0] w fun e w' => ∃ v0_ : Value, e = .returned (.tuple #[v0_, .bool true]) ∧ Kd.R (Kd.int .u8) 5 w' w.heap.size (fun _ => True) v0_ [192 + a0 / 64, 128 + a0 % 64] ∧ Below w.heap.size w w' := by
 have HM := Aside0.mk hm; clear hm
 have HS := Aside0.mk (show utf_size.f a0 = some 2 by unfold utf_size.f; rw [if_neg (by omega), if_pos (by omega)])
 have hmk : ∀ W : World, (Instr.makeSlice 24 (.int .i64 2) (.int .i64 2)).run Try.prog W = .ok (.slice (some ⟨W.heap.size, 0, none⟩) 2 2) (W.alloc (.cells #[.int .u8 0, .int .u8 0] 5)) := utf_Put.make_ 2 (by omega) #[.int .u8 0, .int .u8 0] (by simp [madeCells, Nat.mod_one, show Array.range 2 = #[0, 1] from by decide])
 have hix := heads_at2
 have E0 := Aside0.mk (show bits .or .i64 192 (a0 / 64) % 256 = 192 + a0 / 64 by rw [i64_or192 _ (by omega) (by omega)]; omega)
 have E1 := Aside0.mk (show bits .or .i64 128 (bits .and .i64 a0 63) % 256 = 128 + a0 % 64 by rw [i64_and63 _ (by omega) (by omega), i64_or128 _ (by omega) (by omega)]; omega)
 go_enter Try.func15, Try.ntmps15
 go_wp2_with (first | (go_at_call 33; (with_reducible refine (utf_Put.same_May a0 _ HM.out).mono ?_); rintro e w' ⟨rfl, rfl⟩) | (go_at_call 34; (with_reducible refine (utf_Put.same_size a0 2 _ HS.out).mono ?_); rintro e w' ⟨rfl, rfl⟩))
 refine wp_loop_rounds 2 ?_
 rw [rounds_succ]
 go_wp2
 rw [rounds_succ]
 go_wp2_with (go_at_call 35; (with_reducible refine (heads_calls _).mono ?_); rintro e w' ⟨rfl, rfl⟩)
 go_ret2
 exact ⟨_, rfl, utf_Put.made w [192 + a0 / 64, 128 + a0 % 64] _ (by rw [E0.out, E1.out]; rfl) (by simp) _ 2 rfl, ((Below.refl _ _).alloc (Nat.le_refl _) _).alloc (by simp) _⟩
set_option maxHeartbeats 800000 in
set_option maxRecDepth 100000 in
theorem utf_Put.three (a0 : Int) (w : World) (hm : mayB a0 = true) (h1 : 2048 ≤ a0) (h2 : a0 < 65536) :
 Calls Try.prog 15 #[.int .i64 a0] w fun e w' => ∃ v0_ : Value, e = .returned (.tuple #[v0_, .bool true]) ∧ Kd.R (Kd.int .u8) 5 w' w.heap.size (fun _ => True) v0_ [224 + a0 / 4096, 128 + a0 / 64 % 64, 128 + a0 % 64] ∧ Below w.heap.size w w' := by
 have HM := Aside0.mk hm; clear hm
 have HS := Aside0.mk (show utf_size.f a0 = some 3 by unfold utf_size.f; rw [if_neg (by omega), if_neg (by omega), if_pos (by omega)])
 have hmk : ∀ W : World, (Instr.makeSlice 24 (.int .i64 3) (.int .i64 3)).run Try.prog W = .ok (.slice (some ⟨W.heap.size, 0, none⟩) 3 3) (W.alloc (.cells #[.int .u8 0, .int .u8 0, .int .u8 0] 5)) := utf_Put.make_ 3 (by omega) #[.int .u8 0, .int .u8 0, .int .u8 0] (by simp [madeCells, Nat.mod_one, show Array.range 3 = #[0, 1, 2] from by decide])
 have hix := heads_at3
 have E0 := Aside0.mk (show bits .or .i64 224 (a0 / 64 / 64) % 256 = 224 + a0 / 4096 by rw [i64_or224 _ (by omega) (by omega)]; omega)
 have E1 := Aside0.mk (show bits .or .i64 128 (bits .and .i64 (a0 / 64) 63) % 256 = 128 + a0 / 64 % 64 by rw [i64_and63 _ (by omega) (by omega), i64_or128 _ (by omega) (by omega)]; omega)
 have E2 := Aside0.mk (show bits .or .i64 128 (bits .and .i64 a0 63) % 256 = 128 + a0 % 64 by rw [i64_and63 _ (by omega) (by omega), i64_or128 _ (by omega) (by omega)]; omega)
 go_enter Try.func15, Try.ntmps15
 go_wp2_with (first | (go_at_call 33; (with_reducible refine (utf_Put.same_May a0 _ HM.out).mono ?_); rintro e w' ⟨rfl, rfl⟩) | (go_at_call 34; (with_reducible refine (utf_Put.same_size a0 3 _ HS.out).mono ?_); rintro e w' ⟨rfl, rfl⟩))
 refine wp_loop_rounds 3 ?_
 rw [rounds_succ]
 go_wp2
 rw [rounds_succ]
 go_wp2
 rw [rounds_succ]
 go_wp2_with (go_at_call 35; (with_reducible refine (heads_calls _).mono ?_); rintro e w' ⟨rfl, rfl⟩)
 go_ret2
 exact ⟨_, rfl, utf_Put.made w [224 + a0 / 4096, 128 + a0 / 64 % 64, 128 + a0 % 64] _ (by rw [E0.out, E1.out, E2.out]; rfl) (by simp) _ 3 rfl, ((Below.refl _ _).alloc (Nat.le_refl _) _).alloc (by simp) _⟩
set_option maxHeartbeats 800000 in
set_option maxRecDepth 100000 in
theorem utf_Put.four (a0 : Int) (w : World) (hm : mayB a0 = true) (h1 : 65536 ≤ a0) :
 Calls Try.prog 15 #[.int .i64 a0] w fun e w' => ∃ v0_ : Value, e = .returned (.tuple #[v0_, .bool true]) ∧ Kd.R (Kd.int .u8) 5 w' w.heap.size (fun _ => True) v0_ [240 + a0 / 262144, 128 + a0 / 4096 % 64, 128 + a0 / 64 % 64, 128 + a0 % 64] ∧ Below w.heap.size w w' := by
 have h2 := ((mayB_iff a0).mp hm).2.1
 have HM := Aside0.mk hm; clear hm
 have HS := Aside0.mk (show utf_size.f a0 = some 4 by unfold utf_size.f; rw [if_neg (by omega), if_neg (by omega), if_neg (by omega)])
 have hmk : ∀ W : World, (Instr.makeSlice 24 (.int .i64 4) (.int .i64 4)).run Try.prog W = .ok (.slice (some ⟨W.heap.size, 0, none⟩) 4 4) (W.alloc (.cells #[.int .u8 0, .int .u8 0, .int .u8 0, .int .u8 0] 5)) := utf_Put.make_ 4 (by omega) #[.int .u8 0, .int .u8 0, .int .u8 0, .int .u8 0] (by simp [madeCells, Nat.mod_one, show Array.range 4 = #[0, 1, 2, 3] from by decide])
 have hix := heads_at4
 have E0 := Aside0.mk (show bits .or .i64 240 (a0 / 64 / 64 / 64) % 256 = 240 + a0 / 262144 by rw [i64_or240 _ (by omega) (by omega)]; omega)
 have E1 := Aside0.mk (show bits .or .i64 128 (bits .and .i64 (a0 / 64 / 64) 63) % 256 = 128 + a0 / 4096 % 64 by rw [i64_and63 _ (by omega) (by omega), i64_or128 _ (by omega) (by omega)]; omega)
 have E2 := Aside0.mk (show bits .or .i64 128 (bits .and .i64 (a0 / 64) 63) % 256 = 128 + a0 / 64 % 64 by rw [i64_and63 _ (by omega) (by omega), i64_or128 _ (by omega) (by omega)]; omega)
 have E3 := Aside0.mk (show bits .or .i64 128 (bits .and .i64 a0 63) % 256 = 128 + a0 % 64 by rw [i64_and63 _ (by omega) (by omega), i64_or128 _ (by omega) (by omega)]; omega)
 go_enter Try.func15, Try.ntmps15
 go_wp2_with (first | (go_at_call 33; (with_reducible refine (utf_Put.same_May a0 _ HM.out).mono ?_); rintro e w' ⟨rfl, rfl⟩) | (go_at_call 34; (with_reducible refine (utf_Put.same_size a0 4 _ HS.out).mono ?_); rintro e w' ⟨rfl, rfl⟩))
 refine wp_loop_rounds 4 ?_
 rw [rounds_succ]
 go_wp2
 rw [rounds_succ]
 go_wp2
 rw [rounds_succ]
 go_wp2
 rw [rounds_succ]
 go_wp2_with (go_at_call 35; (with_reducible refine (heads_calls _).mono ?_); rintro e w' ⟨rfl, rfl⟩)
 go_ret2
 exact ⟨_, rfl, utf_Put.made w [240 + a0 / 262144, 128 + a0 / 4096 % 64, 128 + a0 / 64 % 64, 128 + a0 % 64] _ (by rw [E0.out, E1.out, E2.out, E3.out]; rfl) (by simp) _ 4 rfl, ((Below.refl _ _).alloc (Nat.le_refl _) _).alloc (by simp) _⟩
set_option maxHeartbeats 800000 in
set_option maxRecDepth 100000 in
theorem utf_Put.none_ (a0 : Int) (w : World) (hm : mayB a0 = false) :
 Calls Try.prog 15 #[.int .i64 a0] w fun e w' => ∃ v0_ : Value, e = .returned (.tuple #[v0_, .bool false]) ∧ Kd.R (Kd.int .u8) 5 w' w.heap.size (fun _ => True) v0_ [] ∧ Below w.heap.size w w' := by
 have hf : utf_May.f a0 = some false := by
  have hn : ¬ (0 ≤ a0 ∧ a0 ≤ 1114111 ∧ (a0 < 55296 ∨ 57343 < a0)) := fun h => by rw [(mayB_iff a0).mpr h] at hm; cases hm
  unfold utf_May.f
  by_cases c1 : a0 ≥ 0
  · rw [if_pos c1]
    by_cases c2 : a0 ≤ 1114111
    · rw [if_pos c2, if_neg (by omega), decide_eq_false (by omega)]
    rw [if_neg c2]
  rw [if_neg c1]
 have HF := Aside0.mk hf
 clear hf hm
 go_enter Try.func15, Try.ntmps15
 go_wp2_with (go_at_call 33; (with_reducible refine (utf_May.calls a0 false _ HF.out).mono ?_); rintro e w' ⟨rfl, ⟨nd, rfl⟩⟩)
 go_ret2
 exact ⟨_, rfl, Kd.R_nil _ _ _ _ _, pw_below_drewN (Below.refl _ _) _⟩
theorem utf_Put.calls (a0 : Int) (r1 : List Int) (r2 : Bool) (w : World) (h : utf_Put.f a0 = some (r1, r2)) :
 Calls Try.prog 15 #[.int .i64 a0] w fun e w' => ∃ v0_ : Value, e = .returned (.tuple #[v0_, .bool r2]) ∧ Kd.R (Kd.int .u8) 5 w' w.heap.size (fun _ => True) v0_ r1 ∧ Below w.heap.size w w' := by
 unfold utf_Put.f at h
 by_cases hm : mayB a0 = true
 rotate_left
 · rw [if_neg hm] at h
   simp only [Option.some.injEq, Prod.mk.injEq] at h
   obtain ⟨rfl, rfl⟩ := h
   exact utf_Put.none_ a0 w (by simpa using hm)
 rw [if_pos hm] at h
 simp only [Option.some.injEq, Prod.mk.injEq] at h
 obtain ⟨rfl, rfl⟩ := h
 unfold putOf
 by_cases h1 : a0 < 128
 · rw [if_pos h1]; exact utf_Put.one a0 w hm h1
 rw [if_neg h1]
 by_cases h2 : a0 < 2048
 · rw [if_pos h2]; exact utf_Put.two a0 w hm (by omega) h2
 rw [if_neg h2]
 by_cases h3 : a0 < 65536
 · rw [if_pos h3]; exact utf_Put.three a0 w hm (by omega) h3
 rw [if_neg h3]; exact utf_Put.four a0 w hm (by omega)
end Go.Proofs.Ytcdahnkdongmdaa.All
