/- Texts of the claim TermTells, merged, without what it does not use. -/
import Derived.Test.YtcdahnkdongmdaaZTermTellsX1
import Derived.Test.YtcdahnkdongmdaaZTermTellsX17
import Derived.Test.YtcdahnkdongmdaaZTermTellsX18
namespace Go.Proofs.Ytcdahnkdongmdaa.All
open Go.RowKit Go.Proofs.YtcdahnkdongmdaaW.PrintWords Go.Proofs.YtcdahnkdongmdaaW.PrintLast Go.Proofs.YtcdahnkdongmdaaW.PrintMore
attribute [local go_sem] max2_int min2_int max_two min_two
set_option linter.unusedVariables false
set_option linter.unusedSimpArgs false
mutual
def exegeteref02_of.l0 : Nat → List (S35) → List (S35) → Int → Int → List (S35) → Int → Option ((List (S35)))
  | 0, _, _, _, _, _, _ => none
  | k + 1, x0, x1, x2, x3, x9, x10 => if x10 ≤ 1114111 then ((exegeteref02_border.f k x0 x10 1114112).bind fun t295 => ((exegeteref02_border.f k x1 x10 t295).bind fun t296 => (if x3 ≥ x10 then (exegeteref02_of.j1 k x0 x1 x2 x3 x9 x10 t296 (decide (x3 < (wrap64 (t296 - 1))))) else (exegeteref02_of.j1 k x0 x1 x2 x3 x9 x10 t296 false)))) else (some x9)
def exegeteref02_of.j1 : Nat → List (S35) → List (S35) → Int → Int → List (S35) → Int → Int → Bool → Option ((List (S35)))
  | 0, _, _, _, _, _, _, _, _ => none
  | k + 1, x0, x1, x2, x3, x9, x10, x11, x30 => if x30 = true then (exegeteref02_of.j2 k x0 x1 x2 x3 x9 x10 (wrap64 (x3 + 1))) else (exegeteref02_of.j2 k x0 x1 x2 x3 x9 x10 x11)
def exegeteref02_of.j2 : Nat → List (S35) → List (S35) → Int → Int → List (S35) → Int → Int → Option ((List (S35)))
  | 0, _, _, _, _, _, _, _ => none
  | k + 1, x0, x1, x2, x3, x9, x10, x11 => (exegeteref02_is.f k x0 x1 x2 x3 x10).bind fun t297 => (if t297 = true then (if (wrap64 ((x9.length : Int) - 1)) ≥ 0 then (if 0 ≤ (wrap64 ((x9.length : Int) - 1)) then (if (wrap64 ((x9.length : Int) - 1)) < (x9.length : Int) then (exegeteref02_of.j3 k x0 x1 x2 x3 x9 x10 x11 t297 (wrap64 ((x9.length : Int) - 1)) (((rd_T35 x9 (wrap64 ((x9.length : Int) - 1))).f1) == (wrap64 (x10 - 1)))) else (none)) else (none)) else (exegeteref02_of.j3 k x0 x1 x2 x3 x9 x10 x11 t297 (wrap64 ((x9.length : Int) - 1)) false)) else (exegeteref02_of.j3 k x0 x1 x2 x3 x9 x10 x11 t297 (wrap64 ((x9.length : Int) - 1)) false))
def exegeteref02_of.j3 : Nat → List (S35) → List (S35) → Int → Int → List (S35) → Int → Int → Bool → Int → Bool → Option ((List (S35)))
  | 0, _, _, _, _, _, _, _, _, _, _ => none
  | k + 1, x0, x1, x2, x3, x9, x10, x11, x12, x13, x56 => if x56 = true then (if 0 ≤ x13 then (if x13 < (x9.length : Int) then (exegeteref02_of.l0 k x0 x1 x2 x3 (x9.set (x13 : Int).toNat (⟨(rd_T35 x9 x13).f0, wrap64 (x11 - 1)⟩ : S35)) x11) else (none)) else (none)) else (if x12 = true then (if x9.length < 8796093022208 then (exegeteref02_of.l0 k x0 x1 x2 x3 (x9 ++ [(⟨x10, wrap64 (x11 - 1)⟩ : S35)]) x11) else (none)) else (exegeteref02_of.l0 k x0 x1 x2 x3 x9 x11))
end
def exegeteref02_of.f (k : Nat) (l0 : List (S35)) (l1 : List (S35)) (a2 : Int) (a3 : Int) : Option ((List (S35))) := exegeteref02_of.l0 k l0 l1 a2 a3 ([] : List (S35)) 0
set_option maxHeartbeats 8000000 in
set_option maxRecDepth 100000 in
theorem exegeteref02_of.calls (k : Nat) (A0 : Option Addr) (c0 : Nat) (l0 : List (S35)) (A1 : Option Addr) (c1 : Nat) (l1 : List (S35)) (a2 : Int) (a3 : Int) (r : List (S35)) (w : World) (hr0 : Kd.C k35 w A0 l0.length l0) (hc0 : l0.length ≤ c0) (hr1 : Kd.C k35 w A1 l1.length l1) (hc1 : l1.length ≤ c1) (h : exegeteref02_of.f k l0 l1 a2 a3 = some r) :
 Calls Try.prog 73 #[.slice A0 l0.length c0, .slice A1 l1.length c1, .int .i64 a2, .int .i64 a3] w fun e w' => ∃ v0_ : Value, e = .returned (v0_) ∧ Kd.R k35 35 w' w.heap.size (fun _ => True) v0_ r ∧ Below w.heap.size w w' := by
 have hu35 := Try.underlying35
 have HR0 := Aside0.mk hr0
 have HC0 := Aside0.mk hc0
 clear hr0 hc0
 have HR1 := Aside0.mk hr1
 have HC1 := Aside0.mk hc1
 clear hr1 hc1
 have HB := Aside0.mk (Below.refl w.heap.size w)
 have H : (exegeteref02_of.l0 k l0 l1 a2 a3 ([] : List (S35)) 0) = some r := h
 clear h; have H' := Aside0.mk H; clear H
 go_enter Try.func73, Try.ntmps73
 go_wp2
 go_loopg [9, 10] k (fun kq v9 v10 w' => ∃ (x9_1 : List (S35)) (x10_1 : Int), v10 = .int .i64 x10_1 ∧ Aside0 (exegeteref02_of.l0 kq l0 l1 a2 a3 x9_1 x10_1 = some r) ∧ Aside0 (kq ≤ k) ∧ Aside0 (Kd.R k35 35 w' w.heap.size (fun _ => True) v9 x9_1) ∧ Aside0 (Below w.heap.size w w'))
 case atStart => exact ⟨(([] : List (S35))), (0), (by first | rfl | (simp; done) | (simp [*]; done) | (simp [*, bne]; done)), H', ⟨Nat.le_refl _⟩, ⟨by first | exact Kd.R_nil _ _ _ _ _ | exact Kd.N_nil _ _ _ _ _ | exact Kd.V_nil _ _ _ _ _ | exact Kd.Q_nil _ _ _ _ _ | exact Kd.S_nil _ _ _ _ _⟩, ⟨wU HB.out⟩⟩
 case round =>
  clear H'; (try clear c1); (try clear p2)
  obtain ⟨x9_1, x10_1, rfl, HA, HK1, HO_9, HB⟩ := hrel
  cases gk with
  | zero => exact absurd HA.out (by simp [exegeteref02_of.l0])
  | succ k1 =>
   have H := HA.out
   clear HA
   simp only [exegeteref02_of.l0] at H
   by_cases c5 : x10_1 ≤ 1114111
   rotate_left
   · rw [if_neg c5] at H
     have c5b0 : decide (x10_1 ≤ 1114111) = false := decide_eq_false c5
     clear c5
     obtain rfl := Option.some.inj H
     go_wp2
     go_ret
     exact ⟨_, by first | rfl | (simp [errW_none, errW_some] <;> rfl) | (simp [*, errW_none, errW_some] <;> rfl), rU HO_9.out, wU HB.out⟩
   rw [if_pos c5] at H
   have c5b0 : decide (x10_1 ≤ 1114111) = true := decide_eq_true c5
   clear c5
   replace H := Option.bind_eq_some_iff.mp H
   obtain ⟨t295, A60, H⟩ := H
   replace H : ((exegeteref02_border.f k1 l1 x10_1 t295).bind fun t296 => (if a3 ≥ x10_1 then (exegeteref02_of.j1 k1 l0 l1 a2 a3 x9_1 x10_1 t296 (decide (a3 < (wrap64 (t296 - 1))))) else (exegeteref02_of.j1 k1 l0 l1 a2 a3 x9_1 x10_1 t296 false))) = some r := H
   have A6 := Aside0.mk A60
   clear A60
   replace H := Option.bind_eq_some_iff.mp H
   obtain ⟨t296, A70, H⟩ := H
   replace H : (if a3 ≥ x10_1 then (exegeteref02_of.j1 k1 l0 l1 a2 a3 x9_1 x10_1 t296 (decide (a3 < (wrap64 (t296 - 1))))) else (exegeteref02_of.j1 k1 l0 l1 a2 a3 x9_1 x10_1 t296 false)) = some r := H
   have A7 := Aside0.mk A70
   clear A70; have HC8 := Aside0.mk H; clear H
   go_upto_region 5 with (first | ((with_reducible refine gate_callee (f := 78) rfl ?_); refine goesL_ (some 20) rfl rfl Try.func78 (by kernel_rfl) rfl #[.slice A0 l0.length c0, .int .i64 x10_1, .int .i64 1114112] rfl (by (try simp only [List.map_toArray, List.map_cons, List.map_nil]); first | done | rfl | (simp only [List.length_drop, List.length_take]; rfl)) ?_; (with_reducible refine (exegeteref02_border.calls k1 _ _ l0 x10_1 1114112 t295 _ ?side1 ?side2 A6.out).mono ?_); (case side1 => exact cU (Kd.C_below HR0.out HB.out)); (case side2 => exact HC0.out); rintro e w' ⟨rfl, ⟨nd, rfl⟩⟩; refine ⟨_, rfl, ?_⟩) | ((with_reducible refine gate_callee (f := 78) rfl ?_); refine goesL_ (some 21) rfl rfl Try.func78 (by kernel_rfl) rfl #[.slice A1 l1.length c1, .int .i64 x10_1, .int .i64 t295] rfl (by (try simp only [List.map_toArray, List.map_cons, List.map_nil]); first | done | rfl | (simp only [List.length_drop, List.length_take]; rfl)) ?_; (with_reducible refine (exegeteref02_border.calls k1 _ _ l1 x10_1 t295 t296 _ ?side1 ?side2 A7.out).mono ?_); (case side1 => exact (Kd.C_below HR1.out (wU HB.out))); (case side2 => exact HC1.out); rintro e w' ⟨rfl, ⟨nd, rfl⟩⟩; refine ⟨_, rfl, ?_⟩))
   (try simp only [Act.put, qA, qB, qC])
   go_cut [30] (fun v30 wc => ∃ (kq : Nat) (x30_7 : Bool), v30 = .bool x30_7 ∧ Aside0 (exegeteref02_of.j1 kq l0 l1 a2 a3 x9_1 x10_1 t296 x30_7 = some r) ∧ Aside0 (kq ≤ k1) ∧ Aside0 (Kd.R k35 35 wc w.heap.size (fun _ => True) u9 x9_1) ∧ Aside0 (Below w.heap.size w wc))
   case first =>
    have H := HC8.out
    clear HC8
    by_cases c9 : a3 ≥ x10_1
    · rw [if_pos c9] at H
      have c9b0 : decide (x10_1 ≤ a3) = true := decide_eq_true c9
      clear c9
      (first | rw [c9b0] | (simp only [i64_w, i32_w]; rw [c9b0]) | skip)
      have H' := Aside0.mk H; clear H
      go_wp2
      go_meet
      case rel => exact ⟨_, (decide (a3 < (wrap64 (t296 - 1)))), (by first | rfl | (simp; done) | (simp [*]; done) | (simp [*, bne]; done)), H', ⟨by have := HK1.out; first | omega | exact Nat.le_refl _⟩, ⟨rU HO_9.out⟩, ⟨wU HB.out⟩⟩
    rw [if_neg c9] at H
    have c9b0 : decide (x10_1 ≤ a3) = false := decide_eq_false c9
    clear c9
    (first | rw [c9b0] | (simp only [i64_w, i32_w]; rw [c9b0]) | skip)
    have H' := Aside0.mk H; clear H
    go_wp2
    go_meet
    case rel => exact ⟨_, (false), (by first | rfl | (simp; done) | (simp [*]; done) | (simp [*, bne]; done)), H', ⟨by have := HK1.out; first | omega | exact Nat.le_refl _⟩, ⟨rU HO_9.out⟩, ⟨wU HB.out⟩⟩
   case rest =>
    clear HC8; (try clear c1); (try clear p2); (try clear c5); (try clear c5b0); (try clear p6); (try clear c7); (try clear c9); (try clear c9b0); (try clear p2)
    obtain ⟨kq, x30_7, rfl, HA, HJ7, HO_9, HB⟩ := hcut
    cases kq with
    | zero => exact absurd HA.out (by simp [exegeteref02_of.j1])
    | succ kj7 =>
     have H := HA.out
     clear HA
     simp only [exegeteref02_of.j1] at H
     have HC10 := Aside0.mk H; clear H
     go_upto_if 30 with (fail)
     go_cut [11] (fun v11 wc => ∃ (kq : Nat) (x11_9 : Int), v11 = .int .i64 x11_9 ∧ Aside0 (exegeteref02_of.j2 kq l0 l1 a2 a3 x9_1 x10_1 x11_9 = some r) ∧ Aside0 (kq ≤ kj7) ∧ Aside0 (Kd.R k35 35 wc w.heap.size (fun _ => True) u9 x9_1) ∧ Aside0 (Below w.heap.size w wc))
     case first =>
      have H := HC10.out
      clear HC10
      by_cases c11 : x30_7 = true
      · subst c11
        have H1 : (exegeteref02_of.j2 kj7 l0 l1 a2 a3 x9_1 x10_1 (wrap64 (a3 + 1))) = some r := by rw [if_pos rfl] at H; exact H
        clear H; have H := H1; clear H1; have H' := Aside0.mk H; clear H
        go_wp2
        go_meet
        case rel => exact ⟨_, (wrap64 (a3 + 1)), (by first | rfl | (simp; done) | (simp [*]; done) | (simp [*, bne]; done)), H', ⟨by have := HK1.out; have := HJ7.out; first | omega | exact Nat.le_refl _⟩, ⟨rU HO_9.out⟩, ⟨wU HB.out⟩⟩
      replace c11 := Bool.eq_false_iff.mpr c11
      subst c11
      have H1 : (exegeteref02_of.j2 kj7 l0 l1 a2 a3 x9_1 x10_1 t296) = some r := by rw [if_neg (show ¬ (false = true) by decide)] at H; exact H
      clear H; have H := H1; clear H1; have H' := Aside0.mk H; clear H
      go_wp2
      go_meet
      case rel => exact ⟨_, (t296), (by first | rfl | (simp; done) | (simp [*]; done) | (simp [*, bne]; done)), H', ⟨by have := HK1.out; have := HJ7.out; first | omega | exact Nat.le_refl _⟩, ⟨rU HO_9.out⟩, ⟨wU HB.out⟩⟩
     case rest =>
      clear HC10; (try clear c1); (try clear p2); (try clear c5); (try clear c5b0); (try clear p6); (try clear c7); (try clear c9); (try clear c9b0); (try clear c11); (try clear p2); (try clear p6)
      obtain ⟨kq, x11_9, rfl, HA, HJ9, HO_9, HB⟩ := hcut
      cases kq with
      | zero => exact absurd HA.out (by simp [exegeteref02_of.j2])
      | succ kj9 =>
       have H := HA.out
       clear HA
       simp only [exegeteref02_of.j2] at H
       replace H := Option.bind_eq_some_iff.mp H
       obtain ⟨t297, A120, H⟩ := H
       replace H : (if t297 = true then (if (wrap64 ((x9_1.length : Int) - 1)) ≥ 0 then (if 0 ≤ (wrap64 ((x9_1.length : Int) - 1)) then (if (wrap64 ((x9_1.length : Int) - 1)) < (x9_1.length : Int) then (exegeteref02_of.j3 kj9 l0 l1 a2 a3 x9_1 x10_1 x11_9 t297 (wrap64 ((x9_1.length : Int) - 1)) (((rd_T35 x9_1 (wrap64 ((x9_1.length : Int) - 1))).f1) == (wrap64 (x10_1 - 1)))) else (none)) else (none)) else (exegeteref02_of.j3 kj9 l0 l1 a2 a3 x9_1 x10_1 x11_9 t297 (wrap64 ((x9_1.length : Int) - 1)) false)) else (exegeteref02_of.j3 kj9 l0 l1 a2 a3 x9_1 x10_1 x11_9 t297 (wrap64 ((x9_1.length : Int) - 1)) false)) = some r := H
       have A12 := Aside0.mk A120
       clear A120; have HC13 := Aside0.mk H; clear H
       go_upto_region 9 with (first | ((with_reducible refine gate_callee (f := 79) rfl ?_); refine goesL_ (some 38) rfl rfl Try.func79 (by kernel_rfl) rfl #[.slice A0 l0.length c0, .slice A1 l1.length c1, .int .i64 a2, .int .i64 a3, .int .i64 x10_1] rfl (by (try simp only [List.map_toArray, List.map_cons, List.map_nil]); first | done | rfl | (simp only [List.length_drop, List.length_take]; rfl)) ?_; (with_reducible refine (exegeteref02_is.calls kj9 _ _ l0 _ _ l1 a2 a3 x10_1 t297 _ ?side1 ?side2 ?side3 ?side4 A12.out).mono ?_); (case side1 => exact cU (Kd.C_below HR0.out HB.out)); (case side2 => exact HC0.out); (case side3 => exact cU (Kd.C_below HR1.out HB.out)); (case side4 => exact HC1.out); rintro e w' ⟨rfl, ⟨nd, rfl⟩⟩; refine ⟨_, rfl, ?_⟩; obtain ⟨Ao14, co14, eo14⟩ := Kd.R_slice HO_9.out; subst eo14))
       (try simp only [Act.put, qA, qB, qC])
       go_cut [56] (fun v56 wc => ∃ (kq : Nat) (x56_12 : Bool), v56 = .bool x56_12 ∧ Aside0 (exegeteref02_of.j3 kq l0 l1 a2 a3 x9_1 x10_1 x11_9 t297 (wrap64 ((x9_1.length : Int) - 1)) x56_12 = some r) ∧ Aside0 (kq ≤ kj9) ∧ Aside0 (Kd.R k35 35 wc w.heap.size (fun _ => True) (.slice Ao14 x9_1.length co14) x9_1) ∧ Aside0 (Below w.heap.size w wc))
       case first =>
        have H := HC13.out
        clear HC13
        by_cases c15 : t297 = true
        rotate_left
        · replace c15 := Bool.eq_false_iff.mpr c15
          subst c15
          have H1 : (exegeteref02_of.j3 kj9 l0 l1 a2 a3 x9_1 x10_1 x11_9 false (wrap64 ((x9_1.length : Int) - 1)) false) = some r := by rw [if_neg (show ¬ (false = true) by decide)] at H; exact H
          clear H; have H := H1; clear H1; have H' := Aside0.mk H; clear H
          go_wp2
          go_meet
          case rel => exact ⟨_, (false), (by first | rfl | (simp; done) | (simp [*]; done) | (simp [*, bne]; done)), (by first | exact H' | (subst hji17; exact H')), ⟨by have := HK1.out; have := HJ7.out; have := HJ9.out; first | omega | exact Nat.le_refl _⟩, ⟨rU HO_9.out⟩, ⟨wU HB.out⟩⟩
        subst c15
        have H1 : (if (wrap64 ((x9_1.length : Int) - 1)) ≥ 0 then (if 0 ≤ (wrap64 ((x9_1.length : Int) - 1)) then (if (wrap64 ((x9_1.length : Int) - 1)) < (x9_1.length : Int) then (exegeteref02_of.j3 kj9 l0 l1 a2 a3 x9_1 x10_1 x11_9 true (wrap64 ((x9_1.length : Int) - 1)) (((rd_T35 x9_1 (wrap64 ((x9_1.length : Int) - 1))).f1) == (wrap64 (x10_1 - 1)))) else (none)) else (none)) else (exegeteref02_of.j3 kj9 l0 l1 a2 a3 x9_1 x10_1 x11_9 true (wrap64 ((x9_1.length : Int) - 1)) false)) = some r := by rw [if_pos rfl] at H; exact H
        clear H; have H := H1; clear H1
        by_cases c16 : (wrap64 ((x9_1.length : Int) - 1)) ≥ 0
        rotate_left
        · rw [if_neg c16] at H
          have c16b0 : decide (0 ≤ (wrap64 ((x9_1.length : Int) - 1))) = false := decide_eq_false c16
          clear c16
          (first | rw [c16b0] | (simp only [i64_w, i32_w]; rw [c16b0]) | skip)
          have H' := Aside0.mk H; clear H
          go_wp2
          go_meet
          case rel => exact ⟨_, (false), (by first | rfl | (simp; done) | (simp [*]; done) | (simp [*, bne]; done)), (by first | exact H' | (subst hji17; exact H')), ⟨by have := HK1.out; have := HJ7.out; have := HJ9.out; first | omega | exact Nat.le_refl _⟩, ⟨rU HO_9.out⟩, ⟨wU HB.out⟩⟩
        rw [if_pos c16] at H
        have c16b0 : decide (0 ≤ (wrap64 ((x9_1.length : Int) - 1))) = true := decide_eq_true c16
        clear c16
        (first | rw [c16b0] | (simp only [i64_w, i32_w]; rw [c16b0]) | skip)
        obtain ⟨ji17, hji17⟩ : ∃ j_ : Int, (wrap64 ((x9_1.length : Int) - 1)) = j_ := ⟨_, rfl⟩
        replace H : (if 0 ≤ (ji17) then (if (ji17) < (x9_1.length : Int) then (exegeteref02_of.j3 kj9 l0 l1 a2 a3 x9_1 x10_1 x11_9 true ji17 (((rd_T35 x9_1 (ji17)).f1) == (wrap64 (x10_1 - 1)))) else (none)) else (none)) = some r := by first | (rw [hji17] at H; exact H) | (simp only [hji17] at H ⊢; exact H)
        (try rw [hji17] at c16b0)
        have hji17w : (IntKind.i64.wrap ((x9_1.length : Int) - 1)) = ji17 := (i64_w _).trans hji17
        by_cases c18 : 0 ≤ (ji17)
        rotate_left
        · rw [if_neg c18] at H
          exact absurd H (by simp)
        rw [if_pos c18] at H
        have c18b0 : decide (0 ≤ (ji17)) = true := decide_eq_true c18
        clear c18
        by_cases c19 : (ji17) < (x9_1.length : Int)
        · rw [if_pos c19] at H
          have c19b0 : decide ((ji17) < (x9_1.length : Int)) = true := decide_eq_true c19
          clear c19; have H' := Aside0.mk H; clear H
          have p298 : 0 ≤ ((ji17) : Int) := of_decide_eq_true (by first | (with_reducible assumption) | assumption)
          have q298 : (ji17) < (x9_1.length : Int) := of_decide_eq_true (by first | (with_reducible assumption) | assumption)
          obtain ⟨ad298, e298, hx298_0, hx298_1⟩ := at_T35 (Kd.R_reads' HO_9.out).2.2 (ji17) p298 q298
          cases e298; replace p298 := eq_true p298; replace q298 := eq_true q298
          go_wp2
          go_meet
          case rel => exact ⟨_, ((((rd_T35 x9_1 (ji17)).f1) == (wrap64 (x10_1 - 1)))), (by first | rfl | (simp; done) | (simp only [← hji17] <;> (first | rfl | simp)) | (simp [*]; done)), (by first | exact H' | (subst hji17; exact H')), ⟨by have := HK1.out; have := HJ7.out; have := HJ9.out; first | omega | exact Nat.le_refl _⟩, ⟨rU HO_9.out⟩, ⟨wU HB.out⟩⟩
        rw [if_neg c19] at H
        exact absurd H (by simp)
       case rest =>
        clear HC13; (try clear c1); (try clear p2); (try clear q2); (try clear hx2); (try clear c5); (try clear c5b0); (try clear p6); (try clear c7); (try clear c9); (try clear c9b0); (try clear c11); (try clear c15); (try clear c16); (try clear c16b0); (try clear c18); (try clear c18b0); (try clear c19); (try clear c19b0); (try clear hx298_0); (try clear hx298_1); (try clear p2); (try clear p298); (try clear p6)
        (try clear q298)
        obtain ⟨kq, x56_12, rfl, HA, HJ12, HO_9, HB⟩ := hcut
        cases kq with
        | zero => exact absurd HA.out (by simp [exegeteref02_of.j3])
        | succ kj12 =>
         have H := HA.out
         clear HA
         simp only [exegeteref02_of.j3] at H
         by_cases c20 : x56_12 = true
         rotate_left
         · replace c20 := Bool.eq_false_iff.mpr c20
           subst c20
           have H1 : (if t297 = true then (if x9_1.length < 8796093022208 then (exegeteref02_of.l0 kj12 l0 l1 a2 a3 (x9_1 ++ [(⟨x10_1, wrap64 (x11_9 - 1)⟩ : S35)]) x11_9) else (none)) else (exegeteref02_of.l0 kj12 l0 l1 a2 a3 x9_1 x11_9)) = some r := by rw [if_neg (show ¬ (false = true) by decide)] at H; exact H
           clear H; have H := H1; clear H1
           by_cases c27 : t297 = true
           · subst c27
             have H1 : (if x9_1.length < 8796093022208 then (exegeteref02_of.l0 kj12 l0 l1 a2 a3 (x9_1 ++ [(⟨x10_1, wrap64 (x11_9 - 1)⟩ : S35)]) x11_9) else (none)) = some r := by rw [if_pos rfl] at H; exact H
             clear H; have H := H1; clear H1
             by_cases c28 : x9_1.length < 8796093022208
             · rw [if_pos c28] at H
               have LMc28 := Aside0.mk c28
               clear c28
               obtain ⟨y300, hy300⟩ : ∃ y_ : List (S35), y_ = (x9_1 ++ [(⟨x10_1, wrap64 (x11_9 - 1)⟩ : S35)]) := ⟨_, rfl⟩
               replace H : (exegeteref02_of.l0 kj12 l0 l1 a2 a3 y300 x11_9) = some r := by first | (rw [hy300]; with_reducible exact H) | (have H2_ := (Option.bind_some _ _).symm.trans H; rw [hy300]; with_reducible exact H2_) | (have H2_ := (Option.bind_some _ _).symm.trans H; with_reducible exact H2_) | with_reducible exact H | (rw [hy300]; exact H) | exact H
               have Ny300 := Aside0.mk hy300
               clear hy300; have H' := Aside0.mk H; clear H
               go_wp2_with (first | ((with_reducible refine gate_builtin (b := .append) (xs := #[.tmp 64, .tmp 69]) rfl ?_); at_builtin; refine Kd.R_append k35 (w0 := w) w.heap.size rfl (.tmp 64) (.tmp 69) 22 35 (.agg #[(.int .i64 0), (.int .i64 0)]) 16 rfl Try.underlying22 info35 rfl (by decide) (by omega) (.slice Ao14 x9_1.length co14) x9_1 (⟨x10_1, wrap64 (x11_9 - 1)⟩ : S35) [.int .i64 x10_1, .int .i64 (wrap64 (x11_9 - 1))] (fun _ => True) (fun _ => False) rfl rfl ?aP (fun _ hk => hk.elim) ?aF ?aO ?aB ?aS ?aL ?_; (case aP => exact k35_mkM _ _ _ (⟨x10_1, wrap64 (x11_9 - 1)⟩ : S35)); (case aB => exact (wU HB.out)); (case aF => exact (fun _ _ => trivial)); (case aO => exact (rU HO_9.out)); (case aS => exact (below_size (wU HB.out))); (case aL => have := LMc28.out; omega); intro v301 w29 ho hb hg hat; rw [← Ny300.out] at ho; have n0_ := Aside0.mk (hb); have n1_ := Aside0.mk (ho); clear HB; clear HO_9; have HB := n0_; have HO302 := n1_; clear n0_ n1_; clear ho hb hg hat))
               go_roundg kj12
               case measure => have := HK1.out; have := HJ7.out; have := HJ9.out; have := HJ12.out; omega
               case rel => exact ⟨(y300), (x11_9), (by first | rfl | (simp; done) | (simp [*]; done) | (simp [*, bne]; done)), (by first | exact H' | (subst hji21; exact H')), ⟨by have := HK1.out; have := HJ7.out; have := HJ9.out; have := HJ12.out; omega⟩, ⟨rU HO302.out⟩, ⟨wU HB.out⟩⟩
             rw [if_neg c28] at H
             exact absurd H (by simp)
           replace c27 := Bool.eq_false_iff.mpr c27
           subst c27
           have H1 : (exegeteref02_of.l0 kj12 l0 l1 a2 a3 x9_1 x11_9) = some r := by rw [if_neg (show ¬ (false = true) by decide)] at H; exact H
           clear H; have H := H1; clear H1; have H' := Aside0.mk H; clear H
           go_wp2
           go_roundg kj12
           case measure => have := HK1.out; have := HJ7.out; have := HJ9.out; have := HJ12.out; omega
           case rel => exact ⟨(x9_1), (x11_9), (by first | rfl | (simp; done) | (simp [*]; done) | (simp [*, bne]; done)), (by first | exact H' | (subst hji21; exact H')), ⟨by have := HK1.out; have := HJ7.out; have := HJ9.out; have := HJ12.out; omega⟩, ⟨rU HO_9.out⟩, ⟨wU HB.out⟩⟩
         subst c20
         have H1 : (if 0 ≤ (wrap64 ((x9_1.length : Int) - 1)) then (if (wrap64 ((x9_1.length : Int) - 1)) < (x9_1.length : Int) then (exegeteref02_of.l0 kj12 l0 l1 a2 a3 (x9_1.set ((wrap64 ((x9_1.length : Int) - 1)) : Int).toNat (⟨(rd_T35 x9_1 (wrap64 ((x9_1.length : Int) - 1))).f0, wrap64 (x11_9 - 1)⟩ : S35)) x11_9) else (none)) else (none)) = some r := by rw [if_pos rfl] at H; exact H
         clear H; have H := H1; clear H1
         obtain ⟨ji21, hji21⟩ : ∃ j_ : Int, (wrap64 ((x9_1.length : Int) - 1)) = j_ := ⟨_, rfl⟩
         replace H : (if 0 ≤ (ji21) then (if (ji21) < (x9_1.length : Int) then (exegeteref02_of.l0 kj12 l0 l1 a2 a3 (x9_1.set ((ji21) : Int).toNat (⟨(rd_T35 x9_1 (ji21)).f0, wrap64 (x11_9 - 1)⟩ : S35)) x11_9) else (none)) else (none)) = some r := by first | (rw [hji21] at H; exact H) | (simp only [hji21] at H ⊢; exact H)
         have hji21w : (IntKind.i64.wrap ((x9_1.length : Int) - 1)) = ji21 := (i64_w _).trans hji21
         by_cases c22 : 0 ≤ (ji21)
         rotate_left
         · rw [if_neg c22] at H
           exact absurd H (by simp)
         rw [if_pos c22] at H
         have c22b0 : decide (0 ≤ (ji21)) = true := decide_eq_true c22
         clear c22
         by_cases c23 : (ji21) < (x9_1.length : Int)
         rotate_left
         · rw [if_neg c23] at H
           exact absurd H (by simp)
         rw [if_pos c23] at H
         have c23b0 : decide ((ji21) < (x9_1.length : Int)) = true := decide_eq_true c23
         clear c23
         obtain ⟨y299, hy299⟩ : ∃ y_ : List (S35), y_ = (x9_1.set ((ji21) : Int).toNat (⟨(rd_T35 x9_1 (ji21)).f0, wrap64 (x11_9 - 1)⟩ : S35)) := ⟨_, rfl⟩
         replace H : (exegeteref02_of.l0 kj12 l0 l1 a2 a3 y299 x11_9) = some r := by first | (rw [hy299]; with_reducible exact H) | (have H2_ := (Option.bind_some _ _).symm.trans H; rw [hy299]; with_reducible exact H2_) | (have H2_ := (Option.bind_some _ _).symm.trans H; with_reducible exact H2_) | with_reducible exact H | (rw [hy299]; exact H) | exact H
         have Ny299 := Aside0.mk hy299
         clear hy299; have H' := Aside0.mk H; clear H
         have p24 : 0 ≤ ((ji21) : Int) := of_decide_eq_true (by first | (with_reducible assumption) | assumption)
         have q24 : ((ji21) : Int) < ((x9_1.length : Int) : Int) := of_decide_eq_true (by first | (with_reducible assumption) | assumption)
         obtain ⟨go24, co24, eo24, gb24, gl24, cl24, HG24⟩ := Kd.R_form HO_9.out (by omega)
         (first | cases eo24 | (injection eo24 with ea_ en_ ec_; (first | subst ea_ | (injection ea_ with ea_; subst ea_)); subst ec_; clear en_))
         have GB24 := Aside0.mk gb24
         have GG24 := Aside0.mk HG24
         clear gb24 gl24 HG24
         obtain ⟨ce24, hcl24, hM24, hcc24, hfr24⟩ := Kd.R_elem HO_9.out z35 ((ji21) : Int) p24 q24
         obtain rfl := k35_openM hM24
         have hx24_0 : wc.cell? ⟨go24, ((ji21) : Int).toNat * 2, none⟩ = some (.int .i64 ((rd_T35 x9_1 (ji21)).f0)) := hcc24 0 _ rfl
         have hx24_1 : wc.cell? ⟨go24, ((ji21) : Int).toNat * 2 + 1, none⟩ = some (.int .i64 ((rd_T35 x9_1 (ji21)).f1)) := hcc24 1 _ rfl
         have hf24_0 : wc.frozen? ⟨go24, ((ji21) : Int).toNat * 2, none⟩ = false := hfr24 0
         have hf24_1 : wc.frozen? ⟨go24, ((ji21) : Int).toNat * 2 + 1, none⟩ = false := hfr24 1
         clear hcl24 hcc24 hfr24 hM24; replace p24 := eq_true p24; replace q24 := eq_true q24
         have HX25 := Aside0.mk (show Kd.R k35 35 wc w.heap.size (fun _ => True) (.slice (some ⟨go24, 0, none⟩) x9_1.length co14) x9_1 from (rU HO_9.out))
         obtain ⟨ce25, hcl25, hM25, hcc25, hfr25⟩ := Kd.R_elem HX25.out z35 ((ji21) : Int) (of_decide_eq_true (by first | (with_reducible assumption) | assumption)) (by have h_ : ((ji21) : Int) < ((x9_1.length : Int) : Int) := of_decide_eq_true (by first | (with_reducible assumption) | assumption); first | exact h_ | (have e_ := (Kd.R_reads' HO_9.out).1; omega) | simpa using h_)
         obtain rfl := k35_openM hM25
         have HP25 := Kd.R_seg HX25.out ((ji21) : Int) (of_decide_eq_true (by first | (with_reducible assumption) | assumption)) (by have h_ : ((ji21) : Int) < ((x9_1.length : Int) : Int) := of_decide_eq_true (by first | (with_reducible assumption) | assumption); first | exact h_ | (have e_ := (Kd.R_reads' HO_9.out).1; omega) | simpa using h_) (seg := [.int .i64 (wrap64 (x11_9 - 1))]) (j := 1) hcl25 hcc25 (show 2 ≤ 2 from by decide) (x' := (⟨(rd_T35 x9_1 (ji21)).f0, wrap64 (x11_9 - 1)⟩ : S35)) (k35_mkM _ _ _ (⟨(rd_T35 x9_1 (ji21)).f0, wrap64 (x11_9 - 1)⟩ : S35) ) (fun _ hk => hk)
         have hx25_1 := hcc25 1 _ rfl
         (try simp only [show (k35).sz = 2 from rfl, Nat.mul_one, Nat.add_zero] at hx25_1)
         have hf25_1 := hfr25 1
         (try simp only [show (k35).sz = 2 from rfl, Nat.mul_one, Nat.add_zero] at hf25_1)
         clear hcl25 hcc25 hfr25 hM25
         go_wp2_with (first | ((with_reducible refine gate_store (t := 3) (p := 62) rfl ?_); refine store_event (t := 3) (p := 62) (v := ?vo_w26) (w1 := (wc.setCell ⟨go24, ((ji21) : Int).toNat * 2 + 1, none⟩ (.int .i64 (wrap64 (x11_9 - 1))))) ?hg ?ho ?hn ?hr ?_; (case ho => rfl); (case hg => rfl); (case hn => rfl); (case hr => first | (go_simp; done) | (go_simp; rfl)); intro w26 hw; have hg : wc.grownBy w26 (some go24) := (by rw [hw]; exact HP25.2); have hp_ : Kd.R k35 35 w26 w.heap.size (fun _ => True) (.slice (some ⟨go24, 0, none⟩) x9_1.length co14) y299 := (by rw [hw, Ny299.out]; exact HP25.1); clear HP25; have n0_ := Aside0.mk (hp_); have n1_ := Aside0.mk ((by rw [hw]; exact below_set (HB.out) GB24.out : Below w.heap.size w w26)); clear HO_9; clear HB; have HO_9 := n0_; have HB := n1_; clear n0_ n1_; clear hg hw hp_))
         go_roundg kj12
         case measure => have := HK1.out; have := HJ7.out; have := HJ9.out; have := HJ12.out; omega
         case rel => exact ⟨(y299), (x11_9), (by first | rfl | (simp; done) | (simp [*]; done) | (simp [*, bne]; done)), (by first | exact H' | (subst hji21; exact H')), ⟨by have := HK1.out; have := HJ7.out; have := HJ9.out; have := HJ12.out; omega⟩, ⟨rU HO_9.out⟩, ⟨wU HB.out⟩⟩
end Go.Proofs.Ytcdahnkdongmdaa.All
