/- Texts of the claim TermTells, merged, without what it does not use. -/
import Derived.Test.YtcdahnkdongmdaaZTermTellsX1
import Derived.Test.YtcdahnkdongmdaaZTermTellsX12
namespace Go.Proofs.Ytcdahnkdongmdaa.All
open Go.RowKit Go.Proofs.YtcdahnkdongmdaaW.PrintWords Go.Proofs.YtcdahnkdongmdaaW.PrintLast Go.Proofs.YtcdahnkdongmdaaW.PrintMore
attribute [local go_sem] max2_int min2_int max_two min_two
set_option linter.unusedVariables false
set_option linter.unusedSimpArgs false
def exegeteref02_is.f (k : Nat) (l0 : List (S35)) (l1 : List (S35)) (a2 : Int) (a3 : Int) (a4 : Int) : Option (Bool) := (exegeteref02_Has.f k l0 a4).bind fun t293 => ((exegeteref02_Has.f k l1 a4).bind fun t294 => (if a2 = 0 then (if t293 = true then (some true) else (some t294)) else (if a2 = 1 then (if t293 = true then (some t294) else (some false)) else (if a2 = 2 then (if t293 = true then (some (!t294)) else (some false)) else (if t293 = true then (some false) else (some (decide (a4 ≤ a3))))))))
set_option maxHeartbeats 8000000 in
set_option maxRecDepth 100000 in
theorem exegeteref02_is.calls (k : Nat) (A0 : Option Addr) (c0 : Nat) (l0 : List (S35)) (A1 : Option Addr) (c1 : Nat) (l1 : List (S35)) (a2 : Int) (a3 : Int) (a4 : Int) (r : Bool) (w : World) (hr0 : Kd.C k35 w A0 l0.length l0) (hc0 : l0.length ≤ c0) (hr1 : Kd.C k35 w A1 l1.length l1) (hc1 : l1.length ≤ c1) (h : exegeteref02_is.f k l0 l1 a2 a3 a4 = some r) :
 Calls Try.prog 79 #[.slice A0 l0.length c0, .slice A1 l1.length c1, .int .i64 a2, .int .i64 a3, .int .i64 a4] w fun e w' => e = .returned (.bool r) ∧ Drawn0 w w' := by
 have HR0 := Aside0.mk hr0
 have HC0 := Aside0.mk hc0
 clear hr0 hc0
 have HR1 := Aside0.mk hr1
 have HC1 := Aside0.mk hc1
 clear hr1 hc1
 have H : ((exegeteref02_Has.f k l0 a4).bind fun t293 => ((exegeteref02_Has.f k l1 a4).bind fun t294 => (if a2 = 0 then (if t293 = true then (some true) else (some t294)) else (if a2 = 1 then (if t293 = true then (some t294) else (some false)) else (if a2 = 2 then (if t293 = true then (some (!t294)) else (some false)) else (if t293 = true then (some false) else (some (decide (a4 ≤ a3))))))))) = some r := h
 clear h
 replace H := Option.bind_eq_some_iff.mp H
 obtain ⟨t293, A60, H⟩ := H
 replace H : ((exegeteref02_Has.f k l1 a4).bind fun t294 => (if a2 = 0 then (if t293 = true then (some true) else (some t294)) else (if a2 = 1 then (if t293 = true then (some t294) else (some false)) else (if a2 = 2 then (if t293 = true then (some (!t294)) else (some false)) else (if t293 = true then (some false) else (some (decide (a4 ≤ a3)))))))) = some r := H
 have A6 := Aside0.mk A60
 clear A60
 replace H := Option.bind_eq_some_iff.mp H
 obtain ⟨t294, A70, H⟩ := H
 replace H : (if a2 = 0 then (if t293 = true then (some true) else (some t294)) else (if a2 = 1 then (if t293 = true then (some t294) else (some false)) else (if a2 = 2 then (if t293 = true then (some (!t294)) else (some false)) else (if t293 = true then (some false) else (some (decide (a4 ≤ a3))))))) = some r := H
 have A7 := Aside0.mk A70
 clear A70
 by_cases c8 : a2 = 0
 · rw [if_pos c8] at H
   have c8b0 : (a2 == 0) = true := beq_iff_eq.mpr c8
   have c8b1 : (a2 != 0) = false := bne_eq_false_iff_eq.mpr c8
   clear c8
   by_cases c9 : t293 = true
   · subst c9
     have H1 : (some true) = some r := by rw [if_pos rfl] at H; exact H
     clear H; have H := H1; clear H1
     obtain rfl := Option.some.inj H
     go_enter Try.func79, Try.ntmps79
     go_wp2_with (first | ((with_reducible refine gate_callee (f := 53) rfl ?_); refine goesL_ (some 15) rfl rfl Try.func53 (by kernel_rfl) rfl #[.slice A0 l0.length c0, .int .i64 a4] rfl (by (try simp only [List.map_toArray, List.map_cons, List.map_nil]); first | done | rfl | (simp only [List.length_drop, List.length_take]; rfl)) ?_; (with_reducible refine (exegeteref02_Has.calls k _ _ l0 a4 true _ ?side1 ?side2 A6.out).mono ?_); (case side1 => exact cU HR0.out); (case side2 => exact HC0.out); rintro e w' ⟨rfl, ⟨nd, rfl⟩⟩; refine ⟨_, rfl, ?_⟩) | ((with_reducible refine gate_callee (f := 53) rfl ?_); refine goesL_ (some 18) rfl rfl Try.func53 (by kernel_rfl) rfl #[.slice A1 l1.length c1, .int .i64 a4] rfl (by (try simp only [List.map_toArray, List.map_cons, List.map_nil]); first | done | rfl | (simp only [List.length_drop, List.length_take]; rfl)) ?_; (with_reducible refine (exegeteref02_Has.calls k _ _ l1 a4 t294 _ ?side1 ?side2 A7.out).mono ?_); (case side1 => exact cU HR1.out); (case side2 => exact HC1.out); rintro e w' ⟨rfl, ⟨nd, rfl⟩⟩; refine ⟨_, rfl, ?_⟩))
     go_ret
     exact ⟨by first | rfl | (simp; done) | (simp [*]; done), by repeat (first | exact Drawn0.refl _ | apply Drawn0.step)⟩
   replace c9 := Bool.eq_false_iff.mpr c9
   subst c9
   have H1 : (some t294) = some r := by rw [if_neg (show ¬ (false = true) by decide)] at H; exact H
   clear H; have H := H1; clear H1
   obtain rfl := Option.some.inj H
   go_enter Try.func79, Try.ntmps79
   go_wp2_with (first | ((with_reducible refine gate_callee (f := 53) rfl ?_); refine goesL_ (some 15) rfl rfl Try.func53 (by kernel_rfl) rfl #[.slice A0 l0.length c0, .int .i64 a4] rfl (by (try simp only [List.map_toArray, List.map_cons, List.map_nil]); first | done | rfl | (simp only [List.length_drop, List.length_take]; rfl)) ?_; (with_reducible refine (exegeteref02_Has.calls k _ _ l0 a4 false _ ?side1 ?side2 A6.out).mono ?_); (case side1 => exact cU HR0.out); (case side2 => exact HC0.out); rintro e w' ⟨rfl, ⟨nd, rfl⟩⟩; refine ⟨_, rfl, ?_⟩) | ((with_reducible refine gate_callee (f := 53) rfl ?_); refine goesL_ (some 18) rfl rfl Try.func53 (by kernel_rfl) rfl #[.slice A1 l1.length c1, .int .i64 a4] rfl (by (try simp only [List.map_toArray, List.map_cons, List.map_nil]); first | done | rfl | (simp only [List.length_drop, List.length_take]; rfl)) ?_; (with_reducible refine (exegeteref02_Has.calls k _ _ l1 a4 t294 _ ?side1 ?side2 A7.out).mono ?_); (case side1 => exact cU HR1.out); (case side2 => exact HC1.out); rintro e w' ⟨rfl, ⟨nd, rfl⟩⟩; refine ⟨_, rfl, ?_⟩))
   go_ret
   exact ⟨by first | rfl | (simp; done) | (simp [*]; done), by repeat (first | exact Drawn0.refl _ | apply Drawn0.step)⟩
 rw [if_neg c8] at H
 have c8b0 : (a2 == 0) = false := beq_eq_false_iff_ne.mpr c8
 have c8b1 : (a2 != 0) = true := bne_iff_ne.mpr c8
 by_cases c10 : a2 = 1
 · rw [if_pos c10] at H
   have c10b0 : (a2 == 1) = true := beq_iff_eq.mpr c10
   have c10b1 : (a2 != 1) = false := bne_eq_false_iff_eq.mpr c10
   clear c10
   by_cases c11 : t293 = true
   · subst c11
     have H1 : (some t294) = some r := by rw [if_pos rfl] at H; exact H
     clear H; have H := H1; clear H1
     obtain rfl := Option.some.inj H
     go_enter Try.func79, Try.ntmps79
     go_wp2_with (first | ((with_reducible refine gate_callee (f := 53) rfl ?_); refine goesL_ (some 15) rfl rfl Try.func53 (by kernel_rfl) rfl #[.slice A0 l0.length c0, .int .i64 a4] rfl (by (try simp only [List.map_toArray, List.map_cons, List.map_nil]); first | done | rfl | (simp only [List.length_drop, List.length_take]; rfl)) ?_; (with_reducible refine (exegeteref02_Has.calls k _ _ l0 a4 true _ ?side1 ?side2 A6.out).mono ?_); (case side1 => exact cU HR0.out); (case side2 => exact HC0.out); rintro e w' ⟨rfl, ⟨nd, rfl⟩⟩; refine ⟨_, rfl, ?_⟩) | ((with_reducible refine gate_callee (f := 53) rfl ?_); refine goesL_ (some 18) rfl rfl Try.func53 (by kernel_rfl) rfl #[.slice A1 l1.length c1, .int .i64 a4] rfl (by (try simp only [List.map_toArray, List.map_cons, List.map_nil]); first | done | rfl | (simp only [List.length_drop, List.length_take]; rfl)) ?_; (with_reducible refine (exegeteref02_Has.calls k _ _ l1 a4 t294 _ ?side1 ?side2 A7.out).mono ?_); (case side1 => exact cU HR1.out); (case side2 => exact HC1.out); rintro e w' ⟨rfl, ⟨nd, rfl⟩⟩; refine ⟨_, rfl, ?_⟩))
     go_ret
     exact ⟨by first | rfl | (simp; done) | (simp [*]; done), by repeat (first | exact Drawn0.refl _ | apply Drawn0.step)⟩
   replace c11 := Bool.eq_false_iff.mpr c11
   subst c11
   have H1 : (some false) = some r := by rw [if_neg (show ¬ (false = true) by decide)] at H; exact H
   clear H; have H := H1; clear H1
   obtain rfl := Option.some.inj H
   go_enter Try.func79, Try.ntmps79
   go_wp2_with (first | ((with_reducible refine gate_callee (f := 53) rfl ?_); refine goesL_ (some 15) rfl rfl Try.func53 (by kernel_rfl) rfl #[.slice A0 l0.length c0, .int .i64 a4] rfl (by (try simp only [List.map_toArray, List.map_cons, List.map_nil]); first | done | rfl | (simp only [List.length_drop, List.length_take]; rfl)) ?_; (with_reducible refine (exegeteref02_Has.calls k _ _ l0 a4 false _ ?side1 ?side2 A6.out).mono ?_); (case side1 => exact cU HR0.out); (case side2 => exact HC0.out); rintro e w' ⟨rfl, ⟨nd, rfl⟩⟩; refine ⟨_, rfl, ?_⟩) | ((with_reducible refine gate_callee (f := 53) rfl ?_); refine goesL_ (some 18) rfl rfl Try.func53 (by kernel_rfl) rfl #[.slice A1 l1.length c1, .int .i64 a4] rfl (by (try simp only [List.map_toArray, List.map_cons, List.map_nil]); first | done | rfl | (simp only [List.length_drop, List.length_take]; rfl)) ?_; (with_reducible refine (exegeteref02_Has.calls k _ _ l1 a4 t294 _ ?side1 ?side2 A7.out).mono ?_); (case side1 => exact cU HR1.out); (case side2 => exact HC1.out); rintro e w' ⟨rfl, ⟨nd, rfl⟩⟩; refine ⟨_, rfl, ?_⟩))
   go_ret
   exact ⟨by first | rfl | (simp; done) | (simp [*]; done), by repeat (first | exact Drawn0.refl _ | apply Drawn0.step)⟩
 rw [if_neg c10] at H
 have c10b0 : (a2 == 1) = false := beq_eq_false_iff_ne.mpr c10
 have c10b1 : (a2 != 1) = true := bne_iff_ne.mpr c10
 by_cases c12 : a2 = 2
 · rw [if_pos c12] at H
   have c12b0 : (a2 == 2) = true := beq_iff_eq.mpr c12
   have c12b1 : (a2 != 2) = false := bne_eq_false_iff_eq.mpr c12
   clear c12
   by_cases c13 : t293 = true
   · subst c13
     have H1 : (some (!t294)) = some r := by rw [if_pos rfl] at H; exact H
     clear H; have H := H1; clear H1
     obtain rfl := Option.some.inj H
     go_enter Try.func79, Try.ntmps79
     go_wp2_with (first | ((with_reducible refine gate_callee (f := 53) rfl ?_); refine goesL_ (some 15) rfl rfl Try.func53 (by kernel_rfl) rfl #[.slice A0 l0.length c0, .int .i64 a4] rfl (by (try simp only [List.map_toArray, List.map_cons, List.map_nil]); first | done | rfl | (simp only [List.length_drop, List.length_take]; rfl)) ?_; (with_reducible refine (exegeteref02_Has.calls k _ _ l0 a4 true _ ?side1 ?side2 A6.out).mono ?_); (case side1 => exact cU HR0.out); (case side2 => exact HC0.out); rintro e w' ⟨rfl, ⟨nd, rfl⟩⟩; refine ⟨_, rfl, ?_⟩) | ((with_reducible refine gate_callee (f := 53) rfl ?_); refine goesL_ (some 18) rfl rfl Try.func53 (by kernel_rfl) rfl #[.slice A1 l1.length c1, .int .i64 a4] rfl (by (try simp only [List.map_toArray, List.map_cons, List.map_nil]); first | done | rfl | (simp only [List.length_drop, List.length_take]; rfl)) ?_; (with_reducible refine (exegeteref02_Has.calls k _ _ l1 a4 t294 _ ?side1 ?side2 A7.out).mono ?_); (case side1 => exact cU HR1.out); (case side2 => exact HC1.out); rintro e w' ⟨rfl, ⟨nd, rfl⟩⟩; refine ⟨_, rfl, ?_⟩))
     go_ret
     exact ⟨by first | rfl | (simp; done) | (simp [*]; done), by repeat (first | exact Drawn0.refl _ | apply Drawn0.step)⟩
   replace c13 := Bool.eq_false_iff.mpr c13
   subst c13
   have H1 : (some false) = some r := by rw [if_neg (show ¬ (false = true) by decide)] at H; exact H
   clear H; have H := H1; clear H1
   obtain rfl := Option.some.inj H
   go_enter Try.func79, Try.ntmps79
   go_wp2_with (first | ((with_reducible refine gate_callee (f := 53) rfl ?_); refine goesL_ (some 15) rfl rfl Try.func53 (by kernel_rfl) rfl #[.slice A0 l0.length c0, .int .i64 a4] rfl (by (try simp only [List.map_toArray, List.map_cons, List.map_nil]); first | done | rfl | (simp only [List.length_drop, List.length_take]; rfl)) ?_; (with_reducible refine (exegeteref02_Has.calls k _ _ l0 a4 false _ ?side1 ?side2 A6.out).mono ?_); (case side1 => exact cU HR0.out); (case side2 => exact HC0.out); rintro e w' ⟨rfl, ⟨nd, rfl⟩⟩; refine ⟨_, rfl, ?_⟩) | ((with_reducible refine gate_callee (f := 53) rfl ?_); refine goesL_ (some 18) rfl rfl Try.func53 (by kernel_rfl) rfl #[.slice A1 l1.length c1, .int .i64 a4] rfl (by (try simp only [List.map_toArray, List.map_cons, List.map_nil]); first | done | rfl | (simp only [List.length_drop, List.length_take]; rfl)) ?_; (with_reducible refine (exegeteref02_Has.calls k _ _ l1 a4 t294 _ ?side1 ?side2 A7.out).mono ?_); (case side1 => exact cU HR1.out); (case side2 => exact HC1.out); rintro e w' ⟨rfl, ⟨nd, rfl⟩⟩; refine ⟨_, rfl, ?_⟩))
   go_ret
   exact ⟨by first | rfl | (simp; done) | (simp [*]; done), by repeat (first | exact Drawn0.refl _ | apply Drawn0.step)⟩
 rw [if_neg c12] at H
 have c12b0 : (a2 == 2) = false := beq_eq_false_iff_ne.mpr c12
 have c12b1 : (a2 != 2) = true := bne_iff_ne.mpr c12
 by_cases c14 : t293 = true
 · subst c14
   have H1 : (some false) = some r := by rw [if_pos rfl] at H; exact H
   clear H; have H := H1; clear H1
   obtain rfl := Option.some.inj H
   go_enter Try.func79, Try.ntmps79
   go_wp2_with (first | ((with_reducible refine gate_callee (f := 53) rfl ?_); refine goesL_ (some 15) rfl rfl Try.func53 (by kernel_rfl) rfl #[.slice A0 l0.length c0, .int .i64 a4] rfl (by (try simp only [List.map_toArray, List.map_cons, List.map_nil]); first | done | rfl | (simp only [List.length_drop, List.length_take]; rfl)) ?_; (with_reducible refine (exegeteref02_Has.calls k _ _ l0 a4 true _ ?side1 ?side2 A6.out).mono ?_); (case side1 => exact cU HR0.out); (case side2 => exact HC0.out); rintro e w' ⟨rfl, ⟨nd, rfl⟩⟩; refine ⟨_, rfl, ?_⟩) | ((with_reducible refine gate_callee (f := 53) rfl ?_); refine goesL_ (some 18) rfl rfl Try.func53 (by kernel_rfl) rfl #[.slice A1 l1.length c1, .int .i64 a4] rfl (by (try simp only [List.map_toArray, List.map_cons, List.map_nil]); first | done | rfl | (simp only [List.length_drop, List.length_take]; rfl)) ?_; (with_reducible refine (exegeteref02_Has.calls k _ _ l1 a4 t294 _ ?side1 ?side2 A7.out).mono ?_); (case side1 => exact cU HR1.out); (case side2 => exact HC1.out); rintro e w' ⟨rfl, ⟨nd, rfl⟩⟩; refine ⟨_, rfl, ?_⟩))
   go_ret
   exact ⟨by first | rfl | (simp; done) | (simp [*]; done), by repeat (first | exact Drawn0.refl _ | apply Drawn0.step)⟩
 replace c14 := Bool.eq_false_iff.mpr c14
 subst c14
 have H1 : (some (decide (a4 ≤ a3))) = some r := by rw [if_neg (show ¬ (false = true) by decide)] at H; exact H
 clear H; have H := H1; clear H1
 obtain rfl := Option.some.inj H
 go_enter Try.func79, Try.ntmps79
 go_wp2_with (first | ((with_reducible refine gate_callee (f := 53) rfl ?_); refine goesL_ (some 15) rfl rfl Try.func53 (by kernel_rfl) rfl #[.slice A0 l0.length c0, .int .i64 a4] rfl (by (try simp only [List.map_toArray, List.map_cons, List.map_nil]); first | done | rfl | (simp only [List.length_drop, List.length_take]; rfl)) ?_; (with_reducible refine (exegeteref02_Has.calls k _ _ l0 a4 false _ ?side1 ?side2 A6.out).mono ?_); (case side1 => exact cU HR0.out); (case side2 => exact HC0.out); rintro e w' ⟨rfl, ⟨nd, rfl⟩⟩; refine ⟨_, rfl, ?_⟩) | ((with_reducible refine gate_callee (f := 53) rfl ?_); refine goesL_ (some 18) rfl rfl Try.func53 (by kernel_rfl) rfl #[.slice A1 l1.length c1, .int .i64 a4] rfl (by (try simp only [List.map_toArray, List.map_cons, List.map_nil]); first | done | rfl | (simp only [List.length_drop, List.length_take]; rfl)) ?_; (with_reducible refine (exegeteref02_Has.calls k _ _ l1 a4 t294 _ ?side1 ?side2 A7.out).mono ?_); (case side1 => exact cU HR1.out); (case side2 => exact HC1.out); rintro e w' ⟨rfl, ⟨nd, rfl⟩⟩; refine ⟨_, rfl, ?_⟩))
 go_ret
 exact ⟨by first | rfl | (simp; done) | (simp [*]; done), by repeat (first | exact Drawn0.refl _ | apply Drawn0.step)⟩
end Go.Proofs.Ytcdahnkdongmdaa.All
