/- Contracts of functions of the program, each for every input, printed for this claim by a program out of the translation, some written by hand. -/
import Derived.Test.YtahabdogohdjeaaDoorAllx0
import Derived.Test.YtahabdogohdjeaaDoorAllx1
import Derived.Test.YtahabdogohdjeaaDoorAllx3
import Derived.Test.YtahabdogohdjeaaDoorAllx4
namespace Go.Proofs.YtahabdogohdjeaaDoor.All
open Go.RowKit Go.Proofs.YtahabdogohdjeaaDoorW.PrintWords Go.Proofs.YtahabdogohdjeaaDoorW.PrintLast Go.Proofs.YtahabdogohdjeaaDoorW.PrintMore
attribute [local go_sem] max2_int min2_int max_two min_two max_three min_three max_four min_four   -- for this text's walks alone
set_option linter.unusedVariables false
set_option linter.unusedSimpArgs false

/-! ### exegetelaw04_LinesTabs: function 8 -/
mutual
def exegetelaw04_LinesTabs.j0 : Nat → List Int → Int → Int → Bool → Bool → Option (Bool)
  | 0, _, _, _, _, _ => none
  | k + 1, x0, x1, x2, x7, x37 => if x37 = true then (some x7) else ((lines_Col.f k x0 x1 1).bind fun t241 => ((lines_Col.f k x0 x1 x2).bind fun t242 => ((lines_Begin.f k x0 x1).bind fun t243 => (exegetelaw04_LinesTabs.l0 k x0 x1 x2 t241 t242 0 t243))))
def exegetelaw04_LinesTabs.l0 : Nat → List Int → Int → Int → Int → Int → Int → Int → Option (Bool)
  | 0, _, _, _, _, _, _, _ => none
  | k + 1, x0, x1, x2, x8, x9, x10, x11 => if x11 ≥ 0 then (exegetelaw04_LinesTabs.j2 k x0 x1 x2 x8 x9 x10 x11 (decide (x11 < x1))) else (exegetelaw04_LinesTabs.j2 k x0 x1 x2 x8 x9 x10 x11 false)
def exegetelaw04_LinesTabs.j2 : Nat → List Int → Int → Int → Int → Int → Int → Int → Bool → Option (Bool)
  | 0, _, _, _, _, _, _, _, _ => none
  | k + 1, x0, x1, x2, x8, x9, x10, x11, x55 => if x55 = true then (if 0 ≤ x11 then (if x11 < (x0.length : Int) then (if (rd x0 x11) = 9 then (exegetelaw04_LinesTabs.l0 k x0 x1 x2 x8 x9 (wrap64 (x10 + 1)) (wrap64 (x11 + 1))) else (exegetelaw04_LinesTabs.l0 k x0 x1 x2 x8 x9 x10 (wrap64 (x11 + 1)))) else (none)) else (none)) else (if x9 ≥ x8 then (if x9 ≤ (wrap64 (x8 + (wrap64 (x10 * (wrap64 (x2 - 1)))))) then (if x10 > 0 then (some true) else (some (x9 == x8))) else (some false)) else (some false))
end
def exegetelaw04_LinesTabs.f (k : Nat) (l0 : List Int) (a1 : Int) (a2 : Int) : Option (Bool) := (exegetelaw04_awake.f k).bind fun t240 => (if t240 = true then (if (l0.length : Int) > 300 then (exegetelaw04_LinesTabs.j0 k l0 a1 a2 t240 true) else (if a1 < 0 then (exegetelaw04_LinesTabs.j0 k l0 a1 a2 t240 true) else (if a1 > (l0.length : Int) then (exegetelaw04_LinesTabs.j0 k l0 a1 a2 t240 true) else (if a2 < 1 then (exegetelaw04_LinesTabs.j0 k l0 a1 a2 t240 true) else (exegetelaw04_LinesTabs.j0 k l0 a1 a2 t240 (decide (a2 > 16))))))) else (exegetelaw04_LinesTabs.j0 k l0 a1 a2 t240 true))
theorem exegetelaw04_LinesTabs.mono_l : ∀ k, (∀ y0 y1 y2 y3 y4, LeO (exegetelaw04_LinesTabs.j0 k y0 y1 y2 y3 y4) (exegetelaw04_LinesTabs.j0 (k + 1) y0 y1 y2 y3 y4)) ∧ (∀ y0 y1 y2 y3 y4 y5 y6, LeO (exegetelaw04_LinesTabs.l0 k y0 y1 y2 y3 y4 y5 y6) (exegetelaw04_LinesTabs.l0 (k + 1) y0 y1 y2 y3 y4 y5 y6)) ∧ (∀ y0 y1 y2 y3 y4 y5 y6 y7, LeO (exegetelaw04_LinesTabs.j2 k y0 y1 y2 y3 y4 y5 y6 y7) (exegetelaw04_LinesTabs.j2 (k + 1) y0 y1 y2 y3 y4 y5 y6 y7))
  | 0 => ⟨fun _ _ _ _ _ r h => by simp [exegetelaw04_LinesTabs.j0] at h, fun _ _ _ _ _ _ _ r h => by simp [exegetelaw04_LinesTabs.l0] at h, fun _ _ _ _ _ _ _ _ r h => by simp [exegetelaw04_LinesTabs.j2] at h⟩
  | k + 1 => by
    obtain ⟨ih0, ih1, ih2⟩ := exegetelaw04_LinesTabs.mono_l k
    refine ⟨?_, ?_, ?_⟩
    · intro y0 y1 y2 y3 y4
      unfold exegetelaw04_LinesTabs.j0
      repeat' first
      | (with_reducible exact ih0 _ _ _ _ _)
      | (with_reducible exact ih1 _ _ _ _ _ _ _)
      | (with_reducible exact ih2 _ _ _ _ _ _ _ _)
      | (with_reducible exact exegetelaw04_awake.mono _)
      | (with_reducible exact lines_Begin.mono _ _ _)
      | (with_reducible exact lines_Col.mono _ _ _ _)
      | (with_reducible exact LeO.refl _)
      | (with_reducible exact LeO.none _)
      | (with_reducible refine LeO.ite ?_ ?_)
      | (with_reducible refine LeO.bind ?_ (fun _ => ?_))
      | exact ih0 _ _ _ _ _
      | exact ih1 _ _ _ _ _ _ _
      | exact ih2 _ _ _ _ _ _ _ _
      | exact exegetelaw04_awake.mono _
      | exact lines_Begin.mono _ _ _
      | exact lines_Col.mono _ _ _ _
      | exact LeO.none _
      | refine LeO.ite ?_ ?_
      | refine LeO.bind ?_ (fun _ => ?_)
    · intro y0 y1 y2 y3 y4 y5 y6
      unfold exegetelaw04_LinesTabs.l0
      repeat' first
      | (with_reducible exact ih0 _ _ _ _ _)
      | (with_reducible exact ih1 _ _ _ _ _ _ _)
      | (with_reducible exact ih2 _ _ _ _ _ _ _ _)
      | (with_reducible exact exegetelaw04_awake.mono _)
      | (with_reducible exact lines_Begin.mono _ _ _)
      | (with_reducible exact lines_Col.mono _ _ _ _)
      | (with_reducible exact LeO.refl _)
      | (with_reducible exact LeO.none _)
      | (with_reducible refine LeO.ite ?_ ?_)
      | (with_reducible refine LeO.bind ?_ (fun _ => ?_))
      | exact ih0 _ _ _ _ _
      | exact ih1 _ _ _ _ _ _ _
      | exact ih2 _ _ _ _ _ _ _ _
      | exact exegetelaw04_awake.mono _
      | exact lines_Begin.mono _ _ _
      | exact lines_Col.mono _ _ _ _
      | exact LeO.none _
      | refine LeO.ite ?_ ?_
      | refine LeO.bind ?_ (fun _ => ?_)
    · intro y0 y1 y2 y3 y4 y5 y6 y7
      unfold exegetelaw04_LinesTabs.j2
      repeat' first
      | (with_reducible exact ih0 _ _ _ _ _)
      | (with_reducible exact ih1 _ _ _ _ _ _ _)
      | (with_reducible exact ih2 _ _ _ _ _ _ _ _)
      | (with_reducible exact exegetelaw04_awake.mono _)
      | (with_reducible exact lines_Begin.mono _ _ _)
      | (with_reducible exact lines_Col.mono _ _ _ _)
      | (with_reducible exact LeO.refl _)
      | (with_reducible exact LeO.none _)
      | (with_reducible refine LeO.ite ?_ ?_)
      | (with_reducible refine LeO.bind ?_ (fun _ => ?_))
      | exact ih0 _ _ _ _ _
      | exact ih1 _ _ _ _ _ _ _
      | exact ih2 _ _ _ _ _ _ _ _
      | exact exegetelaw04_awake.mono _
      | exact lines_Begin.mono _ _ _
      | exact lines_Col.mono _ _ _ _
      | exact LeO.none _
      | refine LeO.ite ?_ ?_
      | refine LeO.bind ?_ (fun _ => ?_)
theorem exegetelaw04_LinesTabs.mono : ∀ a0 a1 a2 k, LeO (exegetelaw04_LinesTabs.f k a0 a1 a2) (exegetelaw04_LinesTabs.f (k + 1) a0 a1 a2) := by
  intro a0 a1 a2 k
  obtain ⟨ih0, ih1, ih2⟩ := exegetelaw04_LinesTabs.mono_l k
  unfold exegetelaw04_LinesTabs.f
  repeat' first
      | (with_reducible exact ih0 _ _ _ _ _)
      | (with_reducible exact ih1 _ _ _ _ _ _ _)
      | (with_reducible exact ih2 _ _ _ _ _ _ _ _)
      | (with_reducible exact exegetelaw04_awake.mono _)
      | (with_reducible exact lines_Begin.mono _ _ _)
      | (with_reducible exact lines_Col.mono _ _ _ _)
      | (with_reducible exact LeO.refl _)
      | (with_reducible exact LeO.none _)
      | (with_reducible refine LeO.ite ?_ ?_)
      | (with_reducible refine LeO.bind ?_ (fun _ => ?_))
      | exact ih0 _ _ _ _ _
      | exact ih1 _ _ _ _ _ _ _
      | exact ih2 _ _ _ _ _ _ _ _
      | exact exegetelaw04_awake.mono _
      | exact lines_Begin.mono _ _ _
      | exact lines_Col.mono _ _ _ _
      | exact LeO.none _
      | refine LeO.ite ?_ ?_
      | refine LeO.bind ?_ (fun _ => ?_)
set_option maxHeartbeats 8000000 in
set_option maxRecDepth 100000 in
theorem exegetelaw04_LinesTabs.calls (k : Nat) (A0 : Option Addr) (c0 : Nat) (l0 : List Int) (a1 : Int) (a2 : Int) (r : Bool) (w : World) (hr0 : Kd.C (Kd.int .u8) w A0 l0.length l0) (hc0 : l0.length ≤ c0) (h : exegetelaw04_LinesTabs.f k l0 a1 a2 = some r) :
    Calls Tryd.prog 8 #[.slice A0 l0.length c0, .int .i64 a1, .int .i64 a2] w fun e w' => e = .returned (.bool r) ∧ Below w.heap.size w w' := by
  have HR0 := Aside0.mk hr0
  have HC0 := Aside0.mk hc0
  clear hr0 hc0
  have HB := Aside0.mk (Below.refl w.heap.size w)
  have H : ((exegetelaw04_awake.f k).bind fun t240 => (if t240 = true then (if (l0.length : Int) > 300 then (exegetelaw04_LinesTabs.j0 k l0 a1 a2 t240 true) else (if a1 < 0 then (exegetelaw04_LinesTabs.j0 k l0 a1 a2 t240 true) else (if a1 > (l0.length : Int) then (exegetelaw04_LinesTabs.j0 k l0 a1 a2 t240 true) else (if a2 < 1 then (exegetelaw04_LinesTabs.j0 k l0 a1 a2 t240 true) else (exegetelaw04_LinesTabs.j0 k l0 a1 a2 t240 (decide (a2 > 16))))))) else (exegetelaw04_LinesTabs.j0 k l0 a1 a2 t240 true))) = some r := h
  clear h
  replace H := Option.bind_eq_some_iff.mp H
  obtain ⟨t240, A40, H⟩ := H
  replace H : (if t240 = true then (if (l0.length : Int) > 300 then (exegetelaw04_LinesTabs.j0 k l0 a1 a2 t240 true) else (if a1 < 0 then (exegetelaw04_LinesTabs.j0 k l0 a1 a2 t240 true) else (if a1 > (l0.length : Int) then (exegetelaw04_LinesTabs.j0 k l0 a1 a2 t240 true) else (if a2 < 1 then (exegetelaw04_LinesTabs.j0 k l0 a1 a2 t240 true) else (exegetelaw04_LinesTabs.j0 k l0 a1 a2 t240 (decide (a2 > 16))))))) else (exegetelaw04_LinesTabs.j0 k l0 a1 a2 t240 true)) = some r := H
  have A4 := Aside0.mk A40
  clear A40
  have HC5 := Aside0.mk H
  clear H
  go_enter Tryd.func8, Tryd.ntmps8
  go_upto_region 2 with (first | ((with_reducible refine gate_callee (f := 10) rfl ?_); refine goesL_ (some 12) rfl rfl Tryd.func10 (by kernel_rfl) rfl #[] rfl (by (try simp only [List.map_toArray, List.map_cons, List.map_nil]); first | done | rfl | (simp only [List.length_drop, List.length_take]; rfl)) ?_; (with_reducible refine (exegetelaw04_awake.calls k  t240 _ A4.out).mono ?_); rintro e w6 ⟨rfl, hb⟩; refine ⟨_, rfl, ?_⟩; have n0_ := Aside0.mk (below_step (by repeat (first | (with_reducible first | exact HB.out | apply below_alloc | apply pw_below_drewN | apply below_drew1) | exact HB.out)) hb); clear HB; have HB := n0_; clear n0_; (try clear hb); (try clear hb2); (try clear hk); (try clear hi)))
  (try simp only [Act.put, List.setIfInBounds_toArray, List.set_cons_zero, List.set_cons_succ])
  go_cut [37] (fun v37 wc => ∃ (kq : Nat) (x37_4 : Bool), v37 = .bool x37_4 ∧ Aside0 (exegetelaw04_LinesTabs.j0 kq l0 a1 a2 t240 x37_4 = some r) ∧ Aside0 (kq ≤ k) ∧ Aside0 (Below w.heap.size w wc))
  case first =>
    have H := HC5.out
    clear HC5
    by_cases c7 : t240 = true
    · subst c7
      have H1 : (if (l0.length : Int) > 300 then (exegetelaw04_LinesTabs.j0 k l0 a1 a2 true true) else (if a1 < 0 then (exegetelaw04_LinesTabs.j0 k l0 a1 a2 true true) else (if a1 > (l0.length : Int) then (exegetelaw04_LinesTabs.j0 k l0 a1 a2 true true) else (if a2 < 1 then (exegetelaw04_LinesTabs.j0 k l0 a1 a2 true true) else (exegetelaw04_LinesTabs.j0 k l0 a1 a2 true (decide (a2 > 16))))))) = some r := by rw [if_pos rfl] at H; exact H
      clear H
      have H := H1
      clear H1
      by_cases c8 : (l0.length : Int) > 300
      · rw [if_pos c8] at H
        have c8b0 : decide (300 < (l0.length : Int)) = true := decide_eq_true c8
        have c8b1 : decide (300 < l0.length) = true := decide_eq_true (by omega)
        clear c8
        (first | rw [c8b0] | (simp only [i64_w, i32_w]; rw [c8b0]) | skip)
        have H' := Aside0.mk H
        clear H
        go_wp2
        go_meet
        case rel => exact ⟨_, (true), (by first | rfl | (simp; done) | (simp [*]; done)), H', ⟨by first | omega | exact Nat.le_refl _⟩, ⟨by repeat (first | (with_reducible first | exact HB.out | apply below_alloc | apply pw_below_drewN | apply below_drew1) | exact HB.out)⟩⟩
      · rw [if_neg c8] at H
        have c8b0 : decide (300 < (l0.length : Int)) = false := decide_eq_false c8
        have c8b1 : decide (300 < l0.length) = false := decide_eq_false (by omega)
        clear c8
        (first | rw [c8b0] | (simp only [i64_w, i32_w]; rw [c8b0]) | skip)
        by_cases c9 : a1 < 0
        · rw [if_pos c9] at H
          have c9b0 : decide (a1 < 0) = true := decide_eq_true c9
          clear c9
          have H' := Aside0.mk H
          clear H
          go_wp2
          go_meet
          case rel => exact ⟨_, (true), (by first | rfl | (simp; done) | (simp [*]; done)), H', ⟨by first | omega | exact Nat.le_refl _⟩, ⟨by repeat (first | (with_reducible first | exact HB.out | apply below_alloc | apply pw_below_drewN | apply below_drew1) | exact HB.out)⟩⟩
        · rw [if_neg c9] at H
          have c9b0 : decide (a1 < 0) = false := decide_eq_false c9
          clear c9
          by_cases c10 : a1 > (l0.length : Int)
          · rw [if_pos c10] at H
            have c10b0 : decide ((l0.length : Int) < a1) = true := decide_eq_true c10
            clear c10
            have H' := Aside0.mk H
            clear H
            go_wp2
            go_meet
            case rel => exact ⟨_, (true), (by first | rfl | (simp; done) | (simp [*]; done)), H', ⟨by first | omega | exact Nat.le_refl _⟩, ⟨by repeat (first | (with_reducible first | exact HB.out | apply below_alloc | apply pw_below_drewN | apply below_drew1) | exact HB.out)⟩⟩
          · rw [if_neg c10] at H
            have c10b0 : decide ((l0.length : Int) < a1) = false := decide_eq_false c10
            clear c10
            by_cases c11 : a2 < 1
            · rw [if_pos c11] at H
              have c11b0 : decide (a2 < 1) = true := decide_eq_true c11
              clear c11
              have H' := Aside0.mk H
              clear H
              go_wp2
              go_meet
              case rel => exact ⟨_, (true), (by first | rfl | (simp; done) | (simp [*]; done)), H', ⟨by first | omega | exact Nat.le_refl _⟩, ⟨by repeat (first | (with_reducible first | exact HB.out | apply below_alloc | apply pw_below_drewN | apply below_drew1) | exact HB.out)⟩⟩
            · rw [if_neg c11] at H
              have c11b0 : decide (a2 < 1) = false := decide_eq_false c11
              clear c11
              have H' := Aside0.mk H
              clear H
              go_wp2
              go_meet
              case rel => exact ⟨_, (decide (a2 > 16)), (by first | rfl | (simp; done) | (simp [*]; done)), H', ⟨by first | omega | exact Nat.le_refl _⟩, ⟨by repeat (first | (with_reducible first | exact HB.out | apply below_alloc | apply pw_below_drewN | apply below_drew1) | exact HB.out)⟩⟩
    · replace c7 := Bool.eq_false_iff.mpr c7
      subst c7
      have H1 : (exegetelaw04_LinesTabs.j0 k l0 a1 a2 false true) = some r := by rw [if_neg (show ¬ (false = true) by decide)] at H; exact H
      clear H
      have H := H1
      clear H1
      have H' := Aside0.mk H
      clear H
      go_wp2
      go_meet
      case rel => exact ⟨_, (true), (by first | rfl | (simp; done) | (simp [*]; done)), H', ⟨by first | omega | exact Nat.le_refl _⟩, ⟨by repeat (first | (with_reducible first | exact HB.out | apply below_alloc | apply pw_below_drewN | apply below_drew1) | exact HB.out)⟩⟩
  case rest =>
    clear HC5
    try clear c1
    try clear p2
    try clear c7
    try clear c8
    try clear c8b0
    try clear c8b1
    try clear c9
    try clear c9b0
    try clear c10
    try clear c10b0
    try clear c11
    try clear c11b0
    obtain ⟨kq, x37_4, rfl, HA, HJ4, HB⟩ := hcut
    cases kq with
    | zero => exact absurd HA.out (by simp [exegetelaw04_LinesTabs.j0])
    | succ kj4 =>
      have H := HA.out
      clear HA
      simp only [exegetelaw04_LinesTabs.j0] at H
      by_cases c12 : x37_4 = true
      · subst c12
        have H1 : (some t240) = some r := by rw [if_pos rfl] at H; exact H
        clear H
        have H := H1
        clear H1
        obtain rfl := Option.some.inj H
        go_wp2
        go_ret
        exact ⟨by first | rfl | (simp [errW_none, errW_some] <;> rfl) | (simp [*, errW_none, errW_some] <;> rfl), by repeat (first | (with_reducible first | exact HB.out | apply below_alloc | apply pw_below_drewN | apply below_drew1) | exact HB.out)⟩
      · replace c12 := Bool.eq_false_iff.mpr c12
        subst c12
        have H1 : ((lines_Col.f kj4 l0 a1 1).bind fun t241 => ((lines_Col.f kj4 l0 a1 a2).bind fun t242 => ((lines_Begin.f kj4 l0 a1).bind fun t243 => (exegetelaw04_LinesTabs.l0 kj4 l0 a1 a2 t241 t242 0 t243)))) = some r := by rw [if_neg (show ¬ (false = true) by decide)] at H; exact H
        clear H
        have H := H1
        clear H1
        replace H := Option.bind_eq_some_iff.mp H
        obtain ⟨t241, A130, H⟩ := H
        replace H : ((lines_Col.f kj4 l0 a1 a2).bind fun t242 => ((lines_Begin.f kj4 l0 a1).bind fun t243 => (exegetelaw04_LinesTabs.l0 kj4 l0 a1 a2 t241 t242 0 t243))) = some r := H
        have A13 := Aside0.mk A130
        clear A130
        replace H := Option.bind_eq_some_iff.mp H
        obtain ⟨t242, A140, H⟩ := H
        replace H : ((lines_Begin.f kj4 l0 a1).bind fun t243 => (exegetelaw04_LinesTabs.l0 kj4 l0 a1 a2 t241 t242 0 t243)) = some r := H
        have A14 := Aside0.mk A140
        clear A140
        replace H := Option.bind_eq_some_iff.mp H
        obtain ⟨t243, A150, H⟩ := H
        replace H : (exegetelaw04_LinesTabs.l0 kj4 l0 a1 a2 t241 t242 0 t243) = some r := H
        have A15 := Aside0.mk A150
        clear A150
        have H' := Aside0.mk H
        clear H
        go_wp2_with (first | ((with_reducible refine gate_callee (f := 20) rfl ?_); refine goesL_ (some 41) rfl rfl Tryd.func20 (by kernel_rfl) rfl #[.slice A0 l0.length c0, .int .i64 a1, .int .i64 1] rfl (by (try simp only [List.map_toArray, List.map_cons, List.map_nil]); first | done | rfl | (simp only [List.length_drop, List.length_take]; rfl)) ?_; (with_reducible refine (lines_Col.calls kj4 _ _ l0 a1 1 t241 _ ?side1 ?side2 A13.out).mono ?_); (case side1 => repeat (first | exact (Kd.C_below HR0.out HB.out) | (with_reducible refine Kd.C_alloc ?_ _) | (with_reducible refine Kd.C_drewN ?_ _) | (with_reducible refine Kd.C_drew ?_))); (case side2 => exact HC0.out); rintro e w16 ⟨rfl, hb⟩; refine ⟨_, rfl, ?_⟩; have n0_ := Aside0.mk (below_step (by repeat (first | (with_reducible first | exact HB.out | apply below_alloc | apply pw_below_drewN | apply below_drew1) | exact HB.out)) hb); clear HB; have HB := n0_; clear n0_; (try clear hb); (try clear hb2); (try clear hk); (try clear hi)) | ((with_reducible refine gate_callee (f := 20) rfl ?_); refine goesL_ (some 45) rfl rfl Tryd.func20 (by kernel_rfl) rfl #[.slice A0 l0.length c0, .int .i64 a1, .int .i64 a2] rfl (by (try simp only [List.map_toArray, List.map_cons, List.map_nil]); first | done | rfl | (simp only [List.length_drop, List.length_take]; rfl)) ?_; (with_reducible refine (lines_Col.calls kj4 _ _ l0 a1 a2 t242 _ ?side1 ?side2 A14.out).mono ?_); (case side1 => repeat (first | exact (Kd.C_below HR0.out HB.out) | (with_reducible refine Kd.C_alloc ?_ _) | (with_reducible refine Kd.C_drewN ?_ _) | (with_reducible refine Kd.C_drew ?_))); (case side2 => exact HC0.out); rintro e w17 ⟨rfl, hb⟩; refine ⟨_, rfl, ?_⟩; have n0_ := Aside0.mk (below_step (by repeat (first | (with_reducible first | exact HB.out | apply below_alloc | apply pw_below_drewN | apply below_drew1) | exact HB.out)) hb); clear HB; have HB := n0_; clear n0_; (try clear hb); (try clear hb2); (try clear hk); (try clear hi)) | ((with_reducible refine gate_callee (f := 14) rfl ?_); refine goesL_ (some 48) rfl rfl Tryd.func14 (by kernel_rfl) rfl #[.slice A0 l0.length c0, .int .i64 a1] rfl (by (try simp only [List.map_toArray, List.map_cons, List.map_nil]); first | done | rfl | (simp only [List.length_drop, List.length_take]; rfl)) ?_; (with_reducible refine (lines_Begin.calls kj4 _ _ l0 a1 t243 _ ?side1 ?side2 A15.out).mono ?_); (case side1 => repeat (first | exact (Kd.C_below HR0.out HB.out) | (with_reducible refine Kd.C_alloc ?_ _) | (with_reducible refine Kd.C_drewN ?_ _) | (with_reducible refine Kd.C_drew ?_))); (case side2 => exact HC0.out); rintro e w' ⟨rfl, ⟨nd, rfl⟩⟩; refine ⟨_, rfl, ?_⟩))
        go_loopg [10, 11] kj4 (fun kq v10 v11 w' => ∃ (x10_2 : Int) (x11_2 : Int), v10 = .int .i64 x10_2 ∧ v11 = .int .i64 x11_2 ∧ Aside0 (exegetelaw04_LinesTabs.l0 kq l0 a1 a2 t241 t242 x10_2 x11_2 = some r) ∧ Aside0 (kq ≤ kj4) ∧ Aside0 (Below w.heap.size w w'))
        case atStart => exact ⟨(0), (t243), (by first | rfl | (simp; done) | (simp [*]; done)), (by first | rfl | (simp; done) | (simp [*]; done)), H', ⟨Nat.le_refl _⟩, ⟨by repeat (first | (with_reducible first | exact HB.out | apply below_alloc | apply pw_below_drewN | apply below_drew1) | exact HB.out)⟩⟩
        case round =>
          clear H'
          try clear c1
          try clear c2
          try clear p2
          try clear c7
          try clear c8
          try clear c8b0
          try clear c8b1
          try clear c9
          try clear c9b0
          try clear c10
          try clear c10b0
          try clear c11
          try clear c11b0
          try clear c12
          try clear c14
          try clear p2
          obtain ⟨x10_2, x11_2, rfl, rfl, HA, HK2, HB⟩ := hrel
          cases gk with
          | zero => exact absurd HA.out (by simp [exegetelaw04_LinesTabs.l0])
          | succ k2 =>
            have H := HA.out
            clear HA
            simp only [exegetelaw04_LinesTabs.l0] at H
            have HC18 := Aside0.mk H
            clear H
            go_upto_region 8 with (fail)
            go_cut [55] (fun v55 wc => ∃ (kq : Nat) (x55_17 : Bool), v55 = .bool x55_17 ∧ Aside0 (exegetelaw04_LinesTabs.j2 kq l0 a1 a2 t241 t242 x10_2 x11_2 x55_17 = some r) ∧ Aside0 (kq ≤ k2) ∧ Aside0 (Below w.heap.size w wc))
            case first =>
              have H := HC18.out
              clear HC18
              by_cases c19 : x11_2 ≥ 0
              · rw [if_pos c19] at H
                have c19b0 : decide (0 ≤ x11_2) = true := decide_eq_true c19
                clear c19
                (first | rw [c19b0] | (simp only [i64_w, i32_w]; rw [c19b0]) | skip)
                have H' := Aside0.mk H
                clear H
                go_wp2
                go_meet
                case rel => exact ⟨_, (decide (x11_2 < a1)), (by first | rfl | (simp; done) | (simp [*]; done)), H', ⟨by have := HJ4.out; have := HK2.out; first | omega | exact Nat.le_refl _⟩, ⟨by repeat (first | (with_reducible first | exact HB.out | apply below_alloc | apply pw_below_drewN | apply below_drew1) | exact HB.out)⟩⟩
              · rw [if_neg c19] at H
                have c19b0 : decide (0 ≤ x11_2) = false := decide_eq_false c19
                clear c19
                (first | rw [c19b0] | (simp only [i64_w, i32_w]; rw [c19b0]) | skip)
                have H' := Aside0.mk H
                clear H
                go_wp2
                go_meet
                case rel => exact ⟨_, (false), (by first | rfl | (simp; done) | (simp [*]; done)), H', ⟨by have := HJ4.out; have := HK2.out; first | omega | exact Nat.le_refl _⟩, ⟨by repeat (first | (with_reducible first | exact HB.out | apply below_alloc | apply pw_below_drewN | apply below_drew1) | exact HB.out)⟩⟩
            case rest =>
              clear HC18
              try clear c1
              try clear c2
              try clear p2
              try clear c7
              try clear c8
              try clear c8b0
              try clear c8b1
              try clear c9
              try clear c9b0
              try clear c10
              try clear c10b0
              try clear c11
              try clear c11b0
              try clear c12
              try clear c14
              try clear c19
              try clear c19b0
              try clear p2
              obtain ⟨kq, x55_17, rfl, HA, HJ17, HB⟩ := hcut
              cases kq with
              | zero => exact absurd HA.out (by simp [exegetelaw04_LinesTabs.j2])
              | succ kj17 =>
                have H := HA.out
                clear HA
                simp only [exegetelaw04_LinesTabs.j2] at H
                by_cases c20 : x55_17 = true
                · subst c20
                  have H1 : (if 0 ≤ x11_2 then (if x11_2 < (l0.length : Int) then (if (rd l0 x11_2) = 9 then (exegetelaw04_LinesTabs.l0 kj17 l0 a1 a2 t241 t242 (wrap64 (x10_2 + 1)) (wrap64 (x11_2 + 1))) else (exegetelaw04_LinesTabs.l0 kj17 l0 a1 a2 t241 t242 x10_2 (wrap64 (x11_2 + 1)))) else (none)) else (none)) = some r := by rw [if_pos rfl] at H; exact H
                  clear H
                  have H := H1
                  clear H1
                  by_cases c21 : 0 ≤ x11_2
                  · rw [if_pos c21] at H
                    have c21b0 : decide (0 ≤ x11_2) = true := decide_eq_true c21
                    clear c21
                    by_cases c22 : x11_2 < (l0.length : Int)
                    · rw [if_pos c22] at H
                      have c22b0 : decide (x11_2 < (l0.length : Int)) = true := decide_eq_true c22
                      clear c22
                      by_cases c23 : (rd l0 x11_2) = 9
                      · rw [if_pos c23] at H
                        have c23b0 : ((rd l0 x11_2) == 9) = true := beq_iff_eq.mpr c23
                        have c23b1 : ((rd l0 x11_2) != 9) = false := bne_eq_false_iff_eq.mpr c23
                        clear c23
                        have H' := Aside0.mk H
                        clear H
                        have p244 : 0 ≤ (x11_2 : Int) := of_decide_eq_true (by first | (with_reducible assumption) | assumption)
                        have q244 : x11_2 < (l0.length : Int) := of_decide_eq_true (by first | (with_reducible assumption) | assumption)
                        obtain ⟨ad244, e244, hx244_0⟩ := Kd.at_int HR0.out x11_2 p244 q244
                        cases e244
                        replace hx244_0 := (HB.out.cell (World.block_lt_of_cell? w _ hx244_0)).trans hx244_0
                        replace p244 := eq_true p244
                        replace q244 := eq_true q244
                        go_wp2
                        go_roundg kj17
                        case measure => have := HJ4.out; have := HK2.out; have := HJ17.out; omega
                        case rel => exact ⟨(wrap64 (x10_2 + 1)), (wrap64 (x11_2 + 1)), (by first | rfl | (simp; done) | (simp [*]; done)), (by first | rfl | (simp; done) | (simp [*]; done)), H', ⟨by have := HJ4.out; have := HK2.out; have := HJ17.out; omega⟩, ⟨by repeat (first | (with_reducible first | exact HB.out | apply below_alloc | apply pw_below_drewN | apply below_drew1) | exact HB.out)⟩⟩
                      · rw [if_neg c23] at H
                        have c23b0 : ((rd l0 x11_2) == 9) = false := beq_eq_false_iff_ne.mpr c23
                        have c23b1 : ((rd l0 x11_2) != 9) = true := bne_iff_ne.mpr c23
                        have H' := Aside0.mk H
                        clear H
                        have p244 : 0 ≤ (x11_2 : Int) := of_decide_eq_true (by first | (with_reducible assumption) | assumption)
                        have q244 : x11_2 < (l0.length : Int) := of_decide_eq_true (by first | (with_reducible assumption) | assumption)
                        obtain ⟨ad244, e244, hx244_0⟩ := Kd.at_int HR0.out x11_2 p244 q244
                        cases e244
                        replace hx244_0 := (HB.out.cell (World.block_lt_of_cell? w _ hx244_0)).trans hx244_0
                        replace p244 := eq_true p244
                        replace q244 := eq_true q244
                        go_wp2
                        go_roundg kj17
                        case measure => have := HJ4.out; have := HK2.out; have := HJ17.out; omega
                        case rel => exact ⟨(x10_2), (wrap64 (x11_2 + 1)), (by first | rfl | (simp; done) | (simp [*]; done)), (by first | rfl | (simp; done) | (simp [*]; done)), H', ⟨by have := HJ4.out; have := HK2.out; have := HJ17.out; omega⟩, ⟨by repeat (first | (with_reducible first | exact HB.out | apply below_alloc | apply pw_below_drewN | apply below_drew1) | exact HB.out)⟩⟩
                    · rw [if_neg c22] at H
                      exact absurd H (by simp)
                  · rw [if_neg c21] at H
                    exact absurd H (by simp)
                · replace c20 := Bool.eq_false_iff.mpr c20
                  subst c20
                  have H1 : (if t242 ≥ t241 then (if t242 ≤ (wrap64 (t241 + (wrap64 (x10_2 * (wrap64 (a2 - 1)))))) then (if x10_2 > 0 then (some true) else (some (t242 == t241))) else (some false)) else (some false)) = some r := by rw [if_neg (show ¬ (false = true) by decide)] at H; exact H
                  clear H
                  have H := H1
                  clear H1
                  by_cases c24 : t242 ≥ t241
                  · rw [if_pos c24] at H
                    have c24b0 : decide (t241 ≤ t242) = true := decide_eq_true c24
                    clear c24
                    by_cases c25 : t242 ≤ (wrap64 (t241 + (wrap64 (x10_2 * (wrap64 (a2 - 1))))))
                    · rw [if_pos c25] at H
                      have c25b0 : decide (t242 ≤ (wrap64 (t241 + (wrap64 (x10_2 * (wrap64 (a2 - 1))))))) = true := decide_eq_true c25
                      clear c25
                      by_cases c26 : x10_2 > 0
                      · rw [if_pos c26] at H
                        have c26b0 : decide (0 < x10_2) = true := decide_eq_true c26
                        clear c26
                        obtain rfl := Option.some.inj H
                        go_wp2
                        go_ret
                        exact ⟨by first | rfl | (simp [errW_none, errW_some] <;> rfl) | (simp [*, errW_none, errW_some] <;> rfl), by repeat (first | (with_reducible first | exact HB.out | apply below_alloc | apply pw_below_drewN | apply below_drew1) | exact HB.out)⟩
                      · rw [if_neg c26] at H
                        have c26b0 : decide (0 < x10_2) = false := decide_eq_false c26
                        clear c26
                        obtain rfl := Option.some.inj H
                        go_wp2
                        go_ret
                        exact ⟨by first | rfl | (simp [errW_none, errW_some] <;> rfl) | (simp [*, errW_none, errW_some] <;> rfl), by repeat (first | (with_reducible first | exact HB.out | apply below_alloc | apply pw_below_drewN | apply below_drew1) | exact HB.out)⟩
                    · rw [if_neg c25] at H
                      have c25b0 : decide (t242 ≤ (wrap64 (t241 + (wrap64 (x10_2 * (wrap64 (a2 - 1))))))) = false := decide_eq_false c25
                      clear c25
                      obtain rfl := Option.some.inj H
                      go_wp2
                      go_ret
                      exact ⟨by first | rfl | (simp [errW_none, errW_some] <;> rfl) | (simp [*, errW_none, errW_some] <;> rfl), by repeat (first | (with_reducible first | exact HB.out | apply below_alloc | apply pw_below_drewN | apply below_drew1) | exact HB.out)⟩
                  · rw [if_neg c24] at H
                    have c24b0 : decide (t241 ≤ t242) = false := decide_eq_false c24
                    clear c24
                    obtain rfl := Option.some.inj H
                    go_wp2
                    go_ret
                    exact ⟨by first | rfl | (simp [errW_none, errW_some] <;> rfl) | (simp [*, errW_none, errW_some] <;> rfl), by repeat (first | (with_reducible first | exact HB.out | apply below_alloc | apply pw_below_drewN | apply below_drew1) | exact HB.out)⟩

/-- THE ONE PURE STATEMENT of exegetelaw04_LinesTabs: yours. -/
def exegetelaw04_LinesTabs.Pure : Prop := ∀ (l0 : List Int) (a1 : Int) (a2 : Int), l0.length ≤ maxLen → l0.length * 1 ≤ 140737488351232 → (∀ x ∈ l0, (Lit.int .u8 x).wf = true) → (Lit.int .i64 a1).wf = true → (Lit.int .i64 a2).wf = true → ∃ k, exegetelaw04_LinesTabs.f k l0 a1 a2 = some true
theorem exegetelaw04_LinesTabs.walk (P : exegetelaw04_LinesTabs.Pure) (a0 : Option Addr) (len0 cap0 : Nat) (z0 : List Int) (a1 : Int) (a2 : Int) (w : World) (w0 : (a0 = none ∧ len0 = 0 ∧ cap0 = 0 ∧ z0 = []) ∨ ∃ x, a0 = some x ∧ len0 ≤ cap0 ∧ cap0 ≤ maxLen ∧ z0.length = cap0 ∧ (∀ i, i < z0.length → w.cell? (x.add i) = some (.int .u8 (z0.getD i 0))) ∧ ∀ n ∈ z0, (Lit.int .u8 n).wf = true) (y0 : len0 * 1 ≤ 140737488351232) (w1 : (Lit.int .i64 a1).wf = true) (w2 : (Lit.int .i64 a2).wf = true) :
    Calls Tryd.prog 8 #[.slice a0 len0 cap0, .int .i64 a1, .int .i64 a2] w fun e w' => e = .returned (.bool true) ∧ Below w.heap.size w w' := by
  obtain ⟨l0, rfl, hr0, hm0, hw0, hc0⟩ := ReadsInt.ofRowC w0
  obtain ⟨k, h⟩ := P l0 a1 a2 hm0 y0 hw0 w1 w2
  refine (exegetelaw04_LinesTabs.calls k _ _ l0 a1 a2 true w (Kd.C_of_reads (d := (0 : Int)) (h1 := fun _ => rfl) hr0) hc0 h).mono ?_
  rintro e w' ⟨rfl, hd⟩
  exact ⟨rfl, hd⟩

end Go.Proofs.YtahabdogohdjeaaDoor.All
