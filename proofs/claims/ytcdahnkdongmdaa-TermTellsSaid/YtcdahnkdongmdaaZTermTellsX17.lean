/- Texts of the claim TermTells, merged, without what it does not use. -/
import Derived.Test.YtcdahnkdongmdaaZTermTellsX1
namespace Go.Proofs.Ytcdahnkdongmdaa.All
open Go.RowKit Go.Proofs.YtcdahnkdongmdaaW.PrintWords Go.Proofs.YtcdahnkdongmdaaW.PrintLast Go.Proofs.YtcdahnkdongmdaaW.PrintMore
attribute [local go_sem] max2_int min2_int max_two min_two
set_option linter.unusedVariables false
set_option linter.unusedSimpArgs false
mutual
def exegeteref02_border.l0 : Nat → List (S35) → Int → Int → Int → Option (Int)
  | 0, _, _, _, _ => none
  | k + 1, x0, x1, x2, x7 => if x7 < (x0.length : Int) then (if 0 ≤ x7 then (if ((rd_T35 x0 x7).f0) > x1 then (exegeteref02_border.j1 k x0 x1 x2 x7 (decide (((rd_T35 x0 x7).f0) < x2))) else (exegeteref02_border.j1 k x0 x1 x2 x7 false)) else (none)) else (some x2)
def exegeteref02_border.j1 : Nat → List (S35) → Int → Int → Int → Bool → Option (Int)
  | 0, _, _, _, _, _ => none
  | k + 1, x0, x1, x2, x7, x29 => if x29 = true then (if 0 ≤ x7 then (if x7 < (x0.length : Int) then (if ((rd_T35 x0 x7).f1) ≥ x1 then (if ((rd_T35 x0 x7).f1) < (wrap64 (((rd_T35 x0 x7).f0) - 1)) then (exegeteref02_border.l0 k x0 x1 (wrap64 (((rd_T35 x0 x7).f1) + 1)) (wrap64 (x7 + 1))) else (exegeteref02_border.l0 k x0 x1 ((rd_T35 x0 x7).f0) (wrap64 (x7 + 1)))) else (exegeteref02_border.l0 k x0 x1 ((rd_T35 x0 x7).f0) (wrap64 (x7 + 1)))) else (none)) else (none)) else (if 0 ≤ x7 then (if x7 < (x0.length : Int) then (if ((rd_T35 x0 x7).f1) ≥ x1 then (if ((rd_T35 x0 x7).f1) < (wrap64 (x2 - 1)) then (exegeteref02_border.l0 k x0 x1 (wrap64 (((rd_T35 x0 x7).f1) + 1)) (wrap64 (x7 + 1))) else (exegeteref02_border.l0 k x0 x1 x2 (wrap64 (x7 + 1)))) else (exegeteref02_border.l0 k x0 x1 x2 (wrap64 (x7 + 1)))) else (none)) else (none))
end
def exegeteref02_border.f (k : Nat) (l0 : List (S35)) (a1 : Int) (a2 : Int) : Option (Int) := exegeteref02_border.l0 k l0 a1 a2 0
set_option maxHeartbeats 8000000 in
set_option maxRecDepth 100000 in
theorem exegeteref02_border.calls (k : Nat) (A0 : Option Addr) (c0 : Nat) (l0 : List (S35)) (a1 : Int) (a2 : Int) (r : Int) (w : World) (hr0 : Kd.C k35 w A0 l0.length l0) (hc0 : l0.length ≤ c0) (h : exegeteref02_border.f k l0 a1 a2 = some r) :
 Calls Try.prog 78 #[.slice A0 l0.length c0, .int .i64 a1, .int .i64 a2] w fun e w' => e = .returned (.int .i64 r) ∧ Drawn0 w w' := by
 have HR0 := Aside0.mk hr0
 have HC0 := Aside0.mk hc0
 clear hr0 hc0
 have H : (exegeteref02_border.l0 k l0 a1 a2 0) = some r := h
 clear h; have H' := Aside0.mk H; clear H
 go_enter Try.func78, Try.ntmps78
 go_wp2
 go_loopg [2, 7] k (fun kq v2 v7 w' => ∃ (x2_1 : Int) (x7_1 : Int), v2 = .int .i64 x2_1 ∧ v7 = .int .i64 x7_1 ∧ Aside0 (exegeteref02_border.l0 kq l0 a1 x2_1 x7_1 = some r) ∧ Aside0 (kq ≤ k) ∧ Drawn0 w w')
 case atStart => exact ⟨(a2), (0), (by first | rfl | (simp; done) | (simp [*]; done) | (simp [*, bne]; done)), (by first | rfl | (simp; done) | (simp [*]; done) | (simp [*, bne]; done)), H', ⟨Nat.le_refl _⟩, by repeat (first | exact Drawn0.refl _ | apply Drawn0.step)⟩
 case round =>
  clear H'; (try clear p2)
  obtain ⟨x2_1, x7_1, rfl, rfl, HA, HK1, ⟨m1, rfl⟩⟩ := hrel
  cases gk with
  | zero => exact absurd HA.out (by simp [exegeteref02_border.l0])
  | succ k1 =>
   have H := HA.out
   clear HA
   simp only [exegeteref02_border.l0] at H
   by_cases c4 : x7_1 < (l0.length : Int)
   rotate_left
   · rw [if_neg c4] at H
     have c4b0 : decide (x7_1 < (l0.length : Int)) = false := decide_eq_false c4
     clear c4
     obtain rfl := Option.some.inj H
     go_wp2
     go_ret
     exact ⟨by first | rfl | (simp; done) | (simp [*]; done), by repeat (first | exact Drawn0.refl _ | apply Drawn0.step)⟩
   rw [if_pos c4] at H
   have c4b0 : decide (x7_1 < (l0.length : Int)) = true := decide_eq_true c4
   clear c4; have HC5 := Aside0.mk H; clear H
   go_upto_region 4 with (fail)
   go_cut [29] (fun v29 wc => ∃ (kq : Nat) (x29_4 : Bool), v29 = .bool x29_4 ∧ Aside0 (exegeteref02_border.j1 kq l0 a1 x2_1 x7_1 x29_4 = some r) ∧ Aside0 (kq ≤ k1) ∧ Drawn0 w wc)
   case first =>
    have H := HC5.out
    clear HC5
    by_cases c6 : 0 ≤ x7_1
    rotate_left
    · rw [if_neg c6] at H
      exact absurd H (by simp)
    rw [if_pos c6] at H
    have c6b0 : decide (0 ≤ x7_1) = true := decide_eq_true c6
    clear c6
    (first | rw [c6b0] | (simp only [i64_w, i32_w]; rw [c6b0]) | skip)
    by_cases c7 : ((rd_T35 l0 x7_1).f0) > a1
    · rw [if_pos c7] at H
      have c7b0 : decide (a1 < ((rd_T35 l0 x7_1).f0)) = true := decide_eq_true c7
      clear c7; have H' := Aside0.mk H; clear H
      have p284 : 0 ≤ (x7_1 : Int) := of_decide_eq_true (by first | (with_reducible assumption) | assumption)
      have q284 : x7_1 < (l0.length : Int) := of_decide_eq_true (by first | (with_reducible assumption) | assumption)
      obtain ⟨ad284, e284, hx284_0, hx284_1⟩ := at_T35 HR0.out x7_1 p284 q284
      cases e284; replace p284 := eq_true p284; replace q284 := eq_true q284
      have p285 : 0 ≤ (x7_1 : Int) := of_decide_eq_true (by first | (with_reducible assumption) | assumption)
      have q285 : x7_1 < (l0.length : Int) := of_decide_eq_true (by first | (with_reducible assumption) | assumption)
      obtain ⟨ad285, e285, hx285_0, hx285_1⟩ := at_T35 HR0.out x7_1 p285 q285
      obtain rfl : ad284 = ad285 := (by injection e285)
      replace p285 := eq_true p285; replace q285 := eq_true q285
      go_wp2
      go_meet
      case rel => exact ⟨_, (decide (((rd_T35 l0 x7_1).f0) < x2_1)), (by first | rfl | (simp; done) | (simp [*]; done) | (simp [*, bne]; done)), H', ⟨by have := HK1.out; first | omega | exact Nat.le_refl _⟩, by repeat (first | exact Drawn0.refl _ | apply Drawn0.step)⟩
    rw [if_neg c7] at H
    have c7b0 : decide (a1 < ((rd_T35 l0 x7_1).f0)) = false := decide_eq_false c7
    clear c7; have H' := Aside0.mk H; clear H
    have p284 : 0 ≤ (x7_1 : Int) := of_decide_eq_true (by first | (with_reducible assumption) | assumption)
    have q284 : x7_1 < (l0.length : Int) := of_decide_eq_true (by first | (with_reducible assumption) | assumption)
    obtain ⟨ad284, e284, hx284_0, hx284_1⟩ := at_T35 HR0.out x7_1 p284 q284
    cases e284; replace p284 := eq_true p284; replace q284 := eq_true q284
    go_wp2
    go_meet
    case rel => exact ⟨_, (false), (by first | rfl | (simp; done) | (simp [*]; done) | (simp [*, bne]; done)), H', ⟨by have := HK1.out; first | omega | exact Nat.le_refl _⟩, by repeat (first | exact Drawn0.refl _ | apply Drawn0.step)⟩
   case rest =>
    clear HC5; (try clear p2); (try clear q2); (try clear hx2); (try clear c4); (try clear c4b0); (try clear c6); (try clear c6b0); (try clear c7); (try clear c7b0); (try clear hx284_0); (try clear hx284_1); (try clear hx285_0); (try clear hx285_1); (try clear p2); (try clear p284); (try clear p285); (try clear q284); (try clear q285)
    obtain ⟨kq, x29_4, rfl, HA, HJ4, ⟨mc4, rfl⟩⟩ := hcut
    cases kq with
    | zero => exact absurd HA.out (by simp [exegeteref02_border.j1])
    | succ kj4 =>
     have H := HA.out
     clear HA
     simp only [exegeteref02_border.j1] at H
     by_cases c8 : x29_4 = true
     rotate_left
     · replace c8 := Bool.eq_false_iff.mpr c8
       subst c8
       have H1 : (if 0 ≤ x7_1 then (if x7_1 < (l0.length : Int) then (if ((rd_T35 l0 x7_1).f1) ≥ a1 then (if ((rd_T35 l0 x7_1).f1) < (wrap64 (x2_1 - 1)) then (exegeteref02_border.l0 kj4 l0 a1 (wrap64 (((rd_T35 l0 x7_1).f1) + 1)) (wrap64 (x7_1 + 1))) else (exegeteref02_border.l0 kj4 l0 a1 x2_1 (wrap64 (x7_1 + 1)))) else (exegeteref02_border.l0 kj4 l0 a1 x2_1 (wrap64 (x7_1 + 1)))) else (none)) else (none)) = some r := by rw [if_neg (show ¬ (false = true) by decide)] at H; exact H
       clear H; have H := H1; clear H1
       by_cases c13 : 0 ≤ x7_1
       rotate_left
       · rw [if_neg c13] at H
         exact absurd H (by simp)
       rw [if_pos c13] at H
       have c13b0 : decide (0 ≤ x7_1) = true := decide_eq_true c13
       clear c13
       by_cases c14 : x7_1 < (l0.length : Int)
       rotate_left
       · rw [if_neg c14] at H
         exact absurd H (by simp)
       rw [if_pos c14] at H
       have c14b0 : decide (x7_1 < (l0.length : Int)) = true := decide_eq_true c14
       clear c14
       by_cases c15 : ((rd_T35 l0 x7_1).f1) ≥ a1
       rotate_left
       · rw [if_neg c15] at H
         have c15b0 : decide (a1 ≤ ((rd_T35 l0 x7_1).f1)) = false := decide_eq_false c15
         clear c15; have H' := Aside0.mk H; clear H
         have p290 : 0 ≤ (x7_1 : Int) := of_decide_eq_true (by first | (with_reducible assumption) | assumption)
         have q290 : x7_1 < (l0.length : Int) := of_decide_eq_true (by first | (with_reducible assumption) | assumption)
         obtain ⟨ad290, e290, hx290_0, hx290_1⟩ := at_T35 HR0.out x7_1 p290 q290
         cases e290; replace p290 := eq_true p290; replace q290 := eq_true q290
         go_wp2
         go_roundg kj4
         case measure => have := HK1.out; have := HJ4.out; omega
         case rel => exact ⟨(x2_1), (wrap64 (x7_1 + 1)), (by first | rfl | (simp; done) | (simp [*]; done) | (simp [*, bne]; done)), (by first | rfl | (simp; done) | (simp [*]; done) | (simp [*, bne]; done)), H', ⟨by have := HK1.out; have := HJ4.out; omega⟩, by repeat (first | exact Drawn0.refl _ | apply Drawn0.step)⟩
       rw [if_pos c15] at H
       have c15b0 : decide (a1 ≤ ((rd_T35 l0 x7_1).f1)) = true := decide_eq_true c15
       clear c15
       by_cases c16 : ((rd_T35 l0 x7_1).f1) < (wrap64 (x2_1 - 1))
       · rw [if_pos c16] at H
         have c16b0 : decide (((rd_T35 l0 x7_1).f1) < (wrap64 (x2_1 - 1))) = true := decide_eq_true c16
         clear c16; have H' := Aside0.mk H; clear H
         have p290 : 0 ≤ (x7_1 : Int) := of_decide_eq_true (by first | (with_reducible assumption) | assumption)
         have q290 : x7_1 < (l0.length : Int) := of_decide_eq_true (by first | (with_reducible assumption) | assumption)
         obtain ⟨ad290, e290, hx290_0, hx290_1⟩ := at_T35 HR0.out x7_1 p290 q290
         cases e290; replace p290 := eq_true p290; replace q290 := eq_true q290
         have p291 : 0 ≤ (x7_1 : Int) := of_decide_eq_true (by first | (with_reducible assumption) | assumption)
         have q291 : x7_1 < (l0.length : Int) := of_decide_eq_true (by first | (with_reducible assumption) | assumption)
         obtain ⟨ad291, e291, hx291_0, hx291_1⟩ := at_T35 HR0.out x7_1 p291 q291
         obtain rfl : ad290 = ad291 := (by injection e291)
         replace p291 := eq_true p291; replace q291 := eq_true q291
         have p292 : 0 ≤ (x7_1 : Int) := of_decide_eq_true (by first | (with_reducible assumption) | assumption)
         have q292 : x7_1 < (l0.length : Int) := of_decide_eq_true (by first | (with_reducible assumption) | assumption)
         obtain ⟨ad292, e292, hx292_0, hx292_1⟩ := at_T35 HR0.out x7_1 p292 q292
         obtain rfl : ad290 = ad292 := (by injection e292)
         replace p292 := eq_true p292; replace q292 := eq_true q292
         go_wp2
         go_roundg kj4
         case measure => have := HK1.out; have := HJ4.out; omega
         case rel => exact ⟨(wrap64 (((rd_T35 l0 x7_1).f1) + 1)), (wrap64 (x7_1 + 1)), (by first | rfl | (simp; done) | (simp [*]; done) | (simp [*, bne]; done)), (by first | rfl | (simp; done) | (simp [*]; done) | (simp [*, bne]; done)), H', ⟨by have := HK1.out; have := HJ4.out; omega⟩, by repeat (first | exact Drawn0.refl _ | apply Drawn0.step)⟩
       rw [if_neg c16] at H
       have c16b0 : decide (((rd_T35 l0 x7_1).f1) < (wrap64 (x2_1 - 1))) = false := decide_eq_false c16
       clear c16; have H' := Aside0.mk H; clear H
       have p290 : 0 ≤ (x7_1 : Int) := of_decide_eq_true (by first | (with_reducible assumption) | assumption)
       have q290 : x7_1 < (l0.length : Int) := of_decide_eq_true (by first | (with_reducible assumption) | assumption)
       obtain ⟨ad290, e290, hx290_0, hx290_1⟩ := at_T35 HR0.out x7_1 p290 q290
       cases e290; replace p290 := eq_true p290; replace q290 := eq_true q290
       have p291 : 0 ≤ (x7_1 : Int) := of_decide_eq_true (by first | (with_reducible assumption) | assumption)
       have q291 : x7_1 < (l0.length : Int) := of_decide_eq_true (by first | (with_reducible assumption) | assumption)
       obtain ⟨ad291, e291, hx291_0, hx291_1⟩ := at_T35 HR0.out x7_1 p291 q291
       obtain rfl : ad290 = ad291 := (by injection e291)
       replace p291 := eq_true p291; replace q291 := eq_true q291
       go_wp2
       go_roundg kj4
       case measure => have := HK1.out; have := HJ4.out; omega
       case rel => exact ⟨(x2_1), (wrap64 (x7_1 + 1)), (by first | rfl | (simp; done) | (simp [*]; done) | (simp [*, bne]; done)), (by first | rfl | (simp; done) | (simp [*]; done) | (simp [*, bne]; done)), H', ⟨by have := HK1.out; have := HJ4.out; omega⟩, by repeat (first | exact Drawn0.refl _ | apply Drawn0.step)⟩
     subst c8
     have H1 : (if 0 ≤ x7_1 then (if x7_1 < (l0.length : Int) then (if ((rd_T35 l0 x7_1).f1) ≥ a1 then (if ((rd_T35 l0 x7_1).f1) < (wrap64 (((rd_T35 l0 x7_1).f0) - 1)) then (exegeteref02_border.l0 kj4 l0 a1 (wrap64 (((rd_T35 l0 x7_1).f1) + 1)) (wrap64 (x7_1 + 1))) else (exegeteref02_border.l0 kj4 l0 a1 ((rd_T35 l0 x7_1).f0) (wrap64 (x7_1 + 1)))) else (exegeteref02_border.l0 kj4 l0 a1 ((rd_T35 l0 x7_1).f0) (wrap64 (x7_1 + 1)))) else (none)) else (none)) = some r := by rw [if_pos rfl] at H; exact H
     clear H; have H := H1; clear H1
     by_cases c9 : 0 ≤ x7_1
     rotate_left
     · rw [if_neg c9] at H
       exact absurd H (by simp)
     rw [if_pos c9] at H
     have c9b0 : decide (0 ≤ x7_1) = true := decide_eq_true c9
     clear c9
     by_cases c10 : x7_1 < (l0.length : Int)
     rotate_left
     · rw [if_neg c10] at H
       exact absurd H (by simp)
     rw [if_pos c10] at H
     have c10b0 : decide (x7_1 < (l0.length : Int)) = true := decide_eq_true c10
     clear c10
     by_cases c11 : ((rd_T35 l0 x7_1).f1) ≥ a1
     rotate_left
     · rw [if_neg c11] at H
       have c11b0 : decide (a1 ≤ ((rd_T35 l0 x7_1).f1)) = false := decide_eq_false c11
       clear c11; have H' := Aside0.mk H; clear H
       have p286 : 0 ≤ (x7_1 : Int) := of_decide_eq_true (by first | (with_reducible assumption) | assumption)
       have q286 : x7_1 < (l0.length : Int) := of_decide_eq_true (by first | (with_reducible assumption) | assumption)
       obtain ⟨ad286, e286, hx286_0, hx286_1⟩ := at_T35 HR0.out x7_1 p286 q286
       cases e286; replace p286 := eq_true p286; replace q286 := eq_true q286
       have p287 : 0 ≤ (x7_1 : Int) := of_decide_eq_true (by first | (with_reducible assumption) | assumption)
       have q287 : x7_1 < (l0.length : Int) := of_decide_eq_true (by first | (with_reducible assumption) | assumption)
       obtain ⟨ad287, e287, hx287_0, hx287_1⟩ := at_T35 HR0.out x7_1 p287 q287
       obtain rfl : ad286 = ad287 := (by injection e287)
       replace p287 := eq_true p287; replace q287 := eq_true q287
       go_wp2
       go_roundg kj4
       case measure => have := HK1.out; have := HJ4.out; omega
       case rel => exact ⟨((rd_T35 l0 x7_1).f0), (wrap64 (x7_1 + 1)), (by first | rfl | (simp; done) | (simp [*]; done) | (simp [*, bne]; done)), (by first | rfl | (simp; done) | (simp [*]; done) | (simp [*, bne]; done)), H', ⟨by have := HK1.out; have := HJ4.out; omega⟩, by repeat (first | exact Drawn0.refl _ | apply Drawn0.step)⟩
     rw [if_pos c11] at H
     have c11b0 : decide (a1 ≤ ((rd_T35 l0 x7_1).f1)) = true := decide_eq_true c11
     clear c11
     by_cases c12 : ((rd_T35 l0 x7_1).f1) < (wrap64 (((rd_T35 l0 x7_1).f0) - 1))
     · rw [if_pos c12] at H
       have c12b0 : decide (((rd_T35 l0 x7_1).f1) < (wrap64 (((rd_T35 l0 x7_1).f0) - 1))) = true := decide_eq_true c12
       clear c12; have H' := Aside0.mk H; clear H
       have p286 : 0 ≤ (x7_1 : Int) := of_decide_eq_true (by first | (with_reducible assumption) | assumption)
       have q286 : x7_1 < (l0.length : Int) := of_decide_eq_true (by first | (with_reducible assumption) | assumption)
       obtain ⟨ad286, e286, hx286_0, hx286_1⟩ := at_T35 HR0.out x7_1 p286 q286
       cases e286; replace p286 := eq_true p286; replace q286 := eq_true q286
       have p287 : 0 ≤ (x7_1 : Int) := of_decide_eq_true (by first | (with_reducible assumption) | assumption)
       have q287 : x7_1 < (l0.length : Int) := of_decide_eq_true (by first | (with_reducible assumption) | assumption)
       obtain ⟨ad287, e287, hx287_0, hx287_1⟩ := at_T35 HR0.out x7_1 p287 q287
       obtain rfl : ad286 = ad287 := (by injection e287)
       replace p287 := eq_true p287; replace q287 := eq_true q287
       have p288 : 0 ≤ (x7_1 : Int) := of_decide_eq_true (by first | (with_reducible assumption) | assumption)
       have q288 : x7_1 < (l0.length : Int) := of_decide_eq_true (by first | (with_reducible assumption) | assumption)
       obtain ⟨ad288, e288, hx288_0, hx288_1⟩ := at_T35 HR0.out x7_1 p288 q288
       obtain rfl : ad286 = ad288 := (by injection e288)
       replace p288 := eq_true p288; replace q288 := eq_true q288
       have p289 : 0 ≤ (x7_1 : Int) := of_decide_eq_true (by first | (with_reducible assumption) | assumption)
       have q289 : x7_1 < (l0.length : Int) := of_decide_eq_true (by first | (with_reducible assumption) | assumption)
       obtain ⟨ad289, e289, hx289_0, hx289_1⟩ := at_T35 HR0.out x7_1 p289 q289
       obtain rfl : ad286 = ad289 := (by injection e289)
       replace p289 := eq_true p289; replace q289 := eq_true q289
       go_wp2
       go_roundg kj4
       case measure => have := HK1.out; have := HJ4.out; omega
       case rel => exact ⟨(wrap64 (((rd_T35 l0 x7_1).f1) + 1)), (wrap64 (x7_1 + 1)), (by first | rfl | (simp; done) | (simp [*]; done) | (simp [*, bne]; done)), (by first | rfl | (simp; done) | (simp [*]; done) | (simp [*, bne]; done)), H', ⟨by have := HK1.out; have := HJ4.out; omega⟩, by repeat (first | exact Drawn0.refl _ | apply Drawn0.step)⟩
     rw [if_neg c12] at H
     have c12b0 : decide (((rd_T35 l0 x7_1).f1) < (wrap64 (((rd_T35 l0 x7_1).f0) - 1))) = false := decide_eq_false c12
     clear c12; have H' := Aside0.mk H; clear H
     have p286 : 0 ≤ (x7_1 : Int) := of_decide_eq_true (by first | (with_reducible assumption) | assumption)
     have q286 : x7_1 < (l0.length : Int) := of_decide_eq_true (by first | (with_reducible assumption) | assumption)
     obtain ⟨ad286, e286, hx286_0, hx286_1⟩ := at_T35 HR0.out x7_1 p286 q286
     cases e286; replace p286 := eq_true p286; replace q286 := eq_true q286
     have p287 : 0 ≤ (x7_1 : Int) := of_decide_eq_true (by first | (with_reducible assumption) | assumption)
     have q287 : x7_1 < (l0.length : Int) := of_decide_eq_true (by first | (with_reducible assumption) | assumption)
     obtain ⟨ad287, e287, hx287_0, hx287_1⟩ := at_T35 HR0.out x7_1 p287 q287
     obtain rfl : ad286 = ad287 := (by injection e287)
     replace p287 := eq_true p287; replace q287 := eq_true q287
     have p288 : 0 ≤ (x7_1 : Int) := of_decide_eq_true (by first | (with_reducible assumption) | assumption)
     have q288 : x7_1 < (l0.length : Int) := of_decide_eq_true (by first | (with_reducible assumption) | assumption)
     obtain ⟨ad288, e288, hx288_0, hx288_1⟩ := at_T35 HR0.out x7_1 p288 q288
     obtain rfl : ad286 = ad288 := (by injection e288)
     replace p288 := eq_true p288; replace q288 := eq_true q288
     go_wp2
     go_roundg kj4
     case measure => have := HK1.out; have := HJ4.out; omega
     case rel => exact ⟨((rd_T35 l0 x7_1).f0), (wrap64 (x7_1 + 1)), (by first | rfl | (simp; done) | (simp [*]; done) | (simp [*, bne]; done)), (by first | rfl | (simp; done) | (simp [*]; done) | (simp [*, bne]; done)), H', ⟨by have := HK1.out; have := HJ4.out; omega⟩, by repeat (first | exact Drawn0.refl _ | apply Drawn0.step)⟩
end Go.Proofs.Ytcdahnkdongmdaa.All
