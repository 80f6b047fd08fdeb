/- Texts of the claim TermTells, merged, without what it does not use. -/
import Derived.Test.YtcdahnkdongmdaaZTermTellsX1
import Derived.Test.YtcdahnkdongmdaaZTermTellsX15
namespace Go.Proofs.Ytcdahnkdongmdaa.All
open Go.RowKit Go.Proofs.YtcdahnkdongmdaaW.PrintWords Go.Proofs.YtcdahnkdongmdaaW.PrintLast Go.Proofs.YtcdahnkdongmdaaW.PrintMore
attribute [local go_sem] max2_int min2_int max_two min_two
set_option linter.unusedVariables false
set_option linter.unusedSimpArgs false
mutual
def exegeteref03_Part.j0 : Nat → List (List (S35)) → List Int → Int → Int → Bool → Option (Int)
  | 0, _, _, _, _, _ => none
  | k + 1, x0, x1, x2, x7, x17 => if x17 = true then (some 0) else (exegeteref03_Part.l0 k x0 x1 x2 x7 0)
def exegeteref03_Part.l0 : Nat → List (List (S35)) → List Int → Int → Int → Int → Option (Int)
  | 0, _, _, _, _, _ => none
  | k + 1, x0, x1, x2, x7, x8 => if x8 < (x0.length : Int) then (if 0 ≤ x8 then ((exegeteref03_fits.f k (rd_L2 x0 x8) x1 x2).bind fun t283 => (if t283 > x7 then (exegeteref03_Part.l0 k x0 x1 x2 t283 (wrap64 (x8 + 1))) else (exegeteref03_Part.l0 k x0 x1 x2 x7 (wrap64 (x8 + 1))))) else (none)) else (some x7)
end
def exegeteref03_Part.f (k : Nat) (l0 : List (List (S35))) (l1 : List Int) (a2 : Int) : Option (Int) := if a2 < 0 then (exegeteref03_Part.j0 k l0 l1 a2 0 true) else (exegeteref03_Part.j0 k l0 l1 a2 0 (decide (a2 > (l1.length : Int))))
set_option maxHeartbeats 8000000 in
set_option maxRecDepth 100000 in
theorem exegeteref03_Part.calls (k : Nat) (A0 : Option Addr) (c0 : Nat) (l0 : List (List (S35))) (A1 : Option Addr) (c1 : Nat) (l1 : List Int) (a2 : Int) (r : Int) (w : World) (hr0 : Kd.C (Kd.slice 35 k35) w A0 l0.length l0) (hc0 : l0.length ≤ c0) (hr1 : Kd.C (Kd.int .u8) w A1 l1.length l1) (hc1 : l1.length ≤ c1) (h : exegeteref03_Part.f k l0 l1 a2 = some r) :
 Calls Try.prog 56 #[.slice A0 l0.length c0, .slice A1 l1.length c1, .int .i64 a2] w fun e w' => e = .returned (.int .i64 r) ∧ Drawn0 w w' := by
 have HR0 := Aside0.mk hr0
 have HC0 := Aside0.mk hc0
 clear hr0 hc0
 have HR1 := Aside0.mk hr1
 have HC1 := Aside0.mk hc1
 clear hr1 hc1
 have H : (if a2 < 0 then (exegeteref03_Part.j0 k l0 l1 a2 0 true) else (exegeteref03_Part.j0 k l0 l1 a2 0 (decide (a2 > (l1.length : Int))))) = some r := h
 clear h; have HC4 := Aside0.mk H; clear H
 go_enter Try.func56, Try.ntmps56
 go_upto_region 2 with (fail)
 go_cut [17] (fun v17 wc => ∃ (kq : Nat) (x17_3 : Bool), v17 = .bool x17_3 ∧ Aside0 (exegeteref03_Part.j0 kq l0 l1 a2 0 x17_3 = some r) ∧ Aside0 (kq ≤ k) ∧ Drawn0 w wc)
 case first =>
  have H := HC4.out
  clear HC4
  by_cases c5 : a2 < 0
  · rw [if_pos c5] at H
    have c5b0 : decide (a2 < 0) = true := decide_eq_true c5
    clear c5
    (first | rw [c5b0] | (simp only [i64_w, i32_w]; rw [c5b0]) | skip)
    have H' := Aside0.mk H; clear H
    go_wp2
    go_meet
    case rel => exact ⟨_, (true), (by first | rfl | (simp; done) | (simp [*]; done) | (simp [*, bne]; done)), H', ⟨by first | omega | exact Nat.le_refl _⟩, by repeat (first | exact Drawn0.refl _ | apply Drawn0.step)⟩
  rw [if_neg c5] at H
  have c5b0 : decide (a2 < 0) = false := decide_eq_false c5
  clear c5
  (first | rw [c5b0] | (simp only [i64_w, i32_w]; rw [c5b0]) | skip)
  have H' := Aside0.mk H; clear H
  go_wp2
  go_meet
  case rel => exact ⟨_, (decide (a2 > (l1.length : Int))), (by first | rfl | (simp; done) | (simp [*]; done) | (simp [*, bne]; done)), H', ⟨by first | omega | exact Nat.le_refl _⟩, by repeat (first | exact Drawn0.refl _ | apply Drawn0.step)⟩
 case rest =>
  clear HC4; (try clear c1); (try clear p2); (try clear c5); (try clear c5b0)
  obtain ⟨kq, x17_3, rfl, HA, HJ3, ⟨mc3, rfl⟩⟩ := hcut
  cases kq with
  | zero => exact absurd HA.out (by simp [exegeteref03_Part.j0])
  | succ kj3 =>
   have H := HA.out
   clear HA
   simp only [exegeteref03_Part.j0] at H
   by_cases c6 : x17_3 = true
   · subst c6
     have H1 : (some 0) = some r := by rw [if_pos rfl] at H; exact H
     clear H; have H := H1; clear H1
     obtain rfl := Option.some.inj H
     go_wp2
     go_ret
     exact ⟨by first | rfl | (simp; done) | (simp [*]; done), by repeat (first | exact Drawn0.refl _ | apply Drawn0.step)⟩
   replace c6 := Bool.eq_false_iff.mpr c6
   subst c6
   have H1 : (exegeteref03_Part.l0 kj3 l0 l1 a2 0 0) = some r := by rw [if_neg (show ¬ (false = true) by decide)] at H; exact H
   clear H; have H := H1; clear H1; have H' := Aside0.mk H; clear H
   go_wp2
   go_loopg [7, 8] kj3 (fun kq v7 v8 w' => ∃ (x7_2 : Int) (x8_2 : Int), v7 = .int .i64 x7_2 ∧ v8 = .int .i64 x8_2 ∧ Aside0 (exegeteref03_Part.l0 kq l0 l1 a2 x7_2 x8_2 = some r) ∧ Aside0 (kq ≤ kj3) ∧ Drawn0 w w')
   case atStart => exact ⟨(0), (0), (by first | rfl | (simp; done) | (simp [*]; done) | (simp [*, bne]; done)), (by first | rfl | (simp; done) | (simp [*]; done) | (simp [*, bne]; done)), H', ⟨Nat.le_refl _⟩, by repeat (first | exact Drawn0.refl _ | apply Drawn0.step)⟩
   case round =>
    clear H'; (try clear c1); (try clear p2); (try clear c3); (try clear c5); (try clear c5b0); (try clear c6); (try clear p2)
    obtain ⟨x7_2, x8_2, rfl, rfl, HA, HK2, ⟨m2, rfl⟩⟩ := hrel
    cases gk with
    | zero => exact absurd HA.out (by simp [exegeteref03_Part.l0])
    | succ k2 =>
     have H := HA.out
     clear HA
     simp only [exegeteref03_Part.l0] at H
     by_cases c7 : x8_2 < (l0.length : Int)
     rotate_left
     · rw [if_neg c7] at H
       have c7b0 : decide (x8_2 < (l0.length : Int)) = false := decide_eq_false c7
       clear c7
       obtain rfl := Option.some.inj H
       go_wp2
       go_ret
       exact ⟨by first | rfl | (simp; done) | (simp [*]; done), by repeat (first | exact Drawn0.refl _ | apply Drawn0.step)⟩
     rw [if_pos c7] at H
     have c7b0 : decide (x8_2 < (l0.length : Int)) = true := decide_eq_true c7
     clear c7
     by_cases c8 : 0 ≤ x8_2
     rotate_left
     · rw [if_neg c8] at H
       exact absurd H (by simp)
     rw [if_pos c8] at H
     have c8b0 : decide (0 ≤ x8_2) = true := decide_eq_true c8
     clear c8
     replace H := Option.bind_eq_some_iff.mp H
     obtain ⟨t283, A90, H⟩ := H
     replace H : (if t283 > x7_2 then (exegeteref03_Part.l0 k2 l0 l1 a2 t283 (wrap64 (x8_2 + 1))) else (exegeteref03_Part.l0 k2 l0 l1 a2 x7_2 (wrap64 (x8_2 + 1)))) = some r := H
     have A9 := Aside0.mk A90
     clear A90
     by_cases c10 : t283 > x7_2
     · rw [if_pos c10] at H
       have c10b0 : decide (x7_2 < t283) = true := decide_eq_true c10
       clear c10; have H' := Aside0.mk H; clear H
       have p282 : 0 ≤ (x8_2 : Int) := of_decide_eq_true (by first | (with_reducible assumption) | assumption)
       have q282 : x8_2 < (l0.length : Int) := of_decide_eq_true (by first | (with_reducible assumption) | assumption)
       obtain ⟨ad282, A282_0, c282_0, e282, hx282_0, hl282_0, hi282_0⟩ := at_L2 HR0.out x8_2 p282 q282
       cases e282
       have HR282_0 := Aside0.mk hi282_0
       have HC282_0 := Aside0.mk hl282_0
       clear hi282_0 hl282_0; replace p282 := eq_true p282; replace q282 := eq_true q282
       go_wp2_with (first | ((with_reducible refine gate_callee (f := 66) rfl ?_); refine goesL_ (some 30) rfl rfl Try.func66 (by kernel_rfl) rfl #[.slice A282_0 (rd_L2 l0 x8_2).length c282_0, .slice A1 l1.length c1, .int .i64 a2] rfl (by (try simp only [List.map_toArray, List.map_cons, List.map_nil]); first | done | rfl | (simp only [List.length_drop, List.length_take]; rfl)) ?_; (with_reducible refine (exegeteref03_fits.calls k2 _ _ (rd_L2 l0 x8_2) _ _ l1 a2 t283 _ ?side1 ?side2 ?side3 ?side4 A9.out).mono ?_); (case side1 => exact cU HR282_0.out); (case side2 => exact HC282_0.out); (case side3 => exact cU HR1.out); (case side4 => exact HC1.out); rintro e w' ⟨rfl, ⟨nd, rfl⟩⟩; refine ⟨_, rfl, ?_⟩))
       go_roundg k2
       case measure => have := HJ3.out; have := HK2.out; omega
       case rel => exact ⟨(t283), (wrap64 (x8_2 + 1)), (by first | rfl | (simp; done) | (simp [*]; done) | (simp [*, bne]; done)), (by first | rfl | (simp; done) | (simp [*]; done) | (simp [*, bne]; done)), H', ⟨by have := HJ3.out; have := HK2.out; omega⟩, by repeat (first | exact Drawn0.refl _ | apply Drawn0.step)⟩
     rw [if_neg c10] at H
     have c10b0 : decide (x7_2 < t283) = false := decide_eq_false c10
     clear c10; have H' := Aside0.mk H; clear H
     have p282 : 0 ≤ (x8_2 : Int) := of_decide_eq_true (by first | (with_reducible assumption) | assumption)
     have q282 : x8_2 < (l0.length : Int) := of_decide_eq_true (by first | (with_reducible assumption) | assumption)
     obtain ⟨ad282, A282_0, c282_0, e282, hx282_0, hl282_0, hi282_0⟩ := at_L2 HR0.out x8_2 p282 q282
     cases e282
     have HR282_0 := Aside0.mk hi282_0
     have HC282_0 := Aside0.mk hl282_0
     clear hi282_0 hl282_0; replace p282 := eq_true p282; replace q282 := eq_true q282
     go_wp2_with (first | ((with_reducible refine gate_callee (f := 66) rfl ?_); refine goesL_ (some 30) rfl rfl Try.func66 (by kernel_rfl) rfl #[.slice A282_0 (rd_L2 l0 x8_2).length c282_0, .slice A1 l1.length c1, .int .i64 a2] rfl (by (try simp only [List.map_toArray, List.map_cons, List.map_nil]); first | done | rfl | (simp only [List.length_drop, List.length_take]; rfl)) ?_; (with_reducible refine (exegeteref03_fits.calls k2 _ _ (rd_L2 l0 x8_2) _ _ l1 a2 t283 _ ?side1 ?side2 ?side3 ?side4 A9.out).mono ?_); (case side1 => exact cU HR282_0.out); (case side2 => exact HC282_0.out); (case side3 => exact cU HR1.out); (case side4 => exact HC1.out); rintro e w' ⟨rfl, ⟨nd, rfl⟩⟩; refine ⟨_, rfl, ?_⟩))
     go_roundg k2
     case measure => have := HJ3.out; have := HK2.out; omega
     case rel => exact ⟨(x7_2), (wrap64 (x8_2 + 1)), (by first | rfl | (simp; done) | (simp [*]; done) | (simp [*, bne]; done)), (by first | rfl | (simp; done) | (simp [*]; done) | (simp [*, bne]; done)), H', ⟨by have := HJ3.out; have := HK2.out; omega⟩, by repeat (first | exact Drawn0.refl _ | apply Drawn0.step)⟩
end Go.Proofs.Ytcdahnkdongmdaa.All
