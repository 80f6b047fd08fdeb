/- Texts of the claim TermScalar, merged, without what it does not use. -/
import Derived.Test.YtcdahnkdongmdaaZTermScalarX1
import Derived.Test.YtcdahnkdongmdaaZTermScalarX5
namespace Go.Proofs.Ytcdahnkdongmdaa.All
open Go.RowKit Go.Proofs.YtcdahnkdongmdaaW.PrintWords Go.Proofs.YtcdahnkdongmdaaW.PrintLast Go.Proofs.YtcdahnkdongmdaaW.PrintMore
attribute [local go_sem] max2_int min2_int max_two min_two max_three min_three max_four min_four
set_option linter.unusedVariables false
set_option linter.unusedSimpArgs false
mutual
def utf_part_of.j0 : Nat → List Int → Int → Int → Bool → Option (Int × Bool)
  | 0, _, _, _, _ => none
  | k + 1, x0, x1, x2, x22 => if x22 = true then (some (0, false)) else (if 0 < (x0.length : Int) then (if 1 ≤ x1 then (if x1 ≤ (x0.length : Int) then ((some ((x0.take (x1 : Int).toNat).drop 1 : List Int)).bind fun y292 => (utf_part_of.l0 k x1 (wrap64 ((wrap64 (rd x0 0)) - x2)) y292 (y292.length : Int) 0)) else (none)) else (none)) else (none))
def utf_part_of.l0 : Nat → Int → Int → List Int → Int → Int → Option (Int × Bool)
  | 0, _, _, _, _, _ => none
  | k + 1, x1, x8, x31, x32, x33 => if x33 < x32 then (if 0 ≤ x33 then (if x33 < (x31.length : Int) then (if (Go.bits .andNot .u8 (rd x31 x33) 63) = 128 then (utf_part_of.l0 k x1 (Go.bits .or .i64 (wrap64 (x8 * 64)) (wrap64 (Go.bits .and .u8 (rd x31 x33) 63))) x31 x32 (wrap64 (x33 + 1))) else (some (0, false))) else (none)) else (none)) else ((utf_May.f x8).bind fun t297 => (if t297 = true then ((utf_size.f x8).bind fun t298 => (some (x8, (t298 == x1)))) else (some (x8, false))))
end
def utf_part_of.f (k : Nat) (l0 : List Int) (a1 : Int) (a2 : Int) : Option (Int × Bool) := if a1 > (l0.length : Int) then (utf_part_of.j0 k l0 a1 a2 true) else (if 0 < (l0.length : Int) then (utf_part_of.j0 k l0 a1 a2 (decide ((wrap64 (rd l0 0)) < a2))) else (none))
theorem utf_part_of.mono_l : ∀ k, (∀ y0 y1 y2 y3, LeO (utf_part_of.j0 k y0 y1 y2 y3) (utf_part_of.j0 (k + 1) y0 y1 y2 y3)) ∧ (∀ y0 y1 y2 y3 y4, LeO (utf_part_of.l0 k y0 y1 y2 y3 y4) (utf_part_of.l0 (k + 1) y0 y1 y2 y3 y4))
  | 0 => ⟨fun _ _ _ _ r h => by simp [utf_part_of.j0] at h, fun _ _ _ _ _ r h => by simp [utf_part_of.l0] at h⟩
  | k + 1 => by
    obtain ⟨ih0, ih1⟩ := utf_part_of.mono_l k
    refine ⟨?_, ?_⟩
    · intro y0 y1 y2 y3
      unfold utf_part_of.j0
      repeat' first
      | (with_reducible exact ih0 _ _ _ _)
      | (with_reducible exact ih1 _ _ _ _ _)
      | (with_reducible exact LeO.refl _)
      | (with_reducible exact LeO.none _)
      | (with_reducible refine LeO.ite ?_ ?_)
      | (with_reducible refine LeO.bind ?_ (fun _ => ?_))
      | exact ih0 _ _ _ _
      | exact ih1 _ _ _ _ _
      | exact LeO.none _
      | refine LeO.ite ?_ ?_
      | refine LeO.bind ?_ (fun _ => ?_)
    · intro y0 y1 y2 y3 y4
      unfold utf_part_of.l0
      repeat' first
      | (with_reducible exact ih0 _ _ _ _)
      | (with_reducible exact ih1 _ _ _ _ _)
      | (with_reducible exact LeO.refl _)
      | (with_reducible exact LeO.none _)
      | (with_reducible refine LeO.ite ?_ ?_)
      | (with_reducible refine LeO.bind ?_ (fun _ => ?_))
      | exact ih0 _ _ _ _
      | exact ih1 _ _ _ _ _
      | exact LeO.none _
      | refine LeO.ite ?_ ?_
      | refine LeO.bind ?_ (fun _ => ?_)
theorem utf_part_of.mono : ∀ a0 a1 a2 k, LeO (utf_part_of.f k a0 a1 a2) (utf_part_of.f (k + 1) a0 a1 a2) := by
  intro a0 a1 a2 k
  obtain ⟨ih0, ih1⟩ := utf_part_of.mono_l k
  unfold utf_part_of.f
  repeat' first
      | (with_reducible exact ih0 _ _ _ _)
      | (with_reducible exact ih1 _ _ _ _ _)
      | (with_reducible exact LeO.refl _)
      | (with_reducible exact LeO.none _)
      | (with_reducible refine LeO.ite ?_ ?_)
      | (with_reducible refine LeO.bind ?_ (fun _ => ?_))
      | exact ih0 _ _ _ _
      | exact ih1 _ _ _ _ _
      | exact LeO.none _
      | refine LeO.ite ?_ ?_
      | refine LeO.bind ?_ (fun _ => ?_)
set_option maxHeartbeats 8000000 in
set_option maxRecDepth 100000 in
theorem utf_part_of.calls (k : Nat) (A0 : Option Addr) (c0 : Nat) (l0 : List Int) (a1 : Int) (a2 : Int) (r1 : Int) (r2 : Bool) (w : World) (hr0 : Kd.C (Kd.int .u8) w A0 l0.length l0) (hc0 : l0.length ≤ c0) (h : utf_part_of.f k l0 a1 a2 = some (r1, r2)) :
    Calls Try.prog 64 #[.slice A0 l0.length c0, .int .i64 a1, .int .i64 a2] w fun e w' => e = .returned (.tuple #[.int .i64 r1, .bool r2]) ∧ Drawn0 w w' := by
  have HR0 := Aside0.mk hr0
  have HC0 := Aside0.mk hc0
  clear hr0 hc0
  have H : (if a1 > (l0.length : Int) then (utf_part_of.j0 k l0 a1 a2 true) else (if 0 < (l0.length : Int) then (utf_part_of.j0 k l0 a1 a2 (decide ((wrap64 (rd l0 0)) < a2))) else (none))) = some (r1, r2) := h
  clear h
  have HC4 := Aside0.mk H
  clear H
  go_enter Try.func64, Try.ntmps64
  go_upto_region 1 with (fail)
  go_cut [22] (fun v22 wc => ∃ (kq : Nat) (x22_3 : Bool), v22 = .bool x22_3 ∧ Aside0 (utf_part_of.j0 kq l0 a1 a2 x22_3 = some (r1, r2)) ∧ Aside0 (kq ≤ k) ∧ Drawn0 w wc)
  case first =>
    have H := HC4.out
    clear HC4
    by_cases c5 : a1 > (l0.length : Int)
    · rw [if_pos c5] at H
      have c5b0 : decide ((l0.length : Int) < a1) = true := decide_eq_true c5
      clear c5
      (first | rw [c5b0] | (simp only [i64_w, i32_w]; rw [c5b0]) | skip)
      have H' := Aside0.mk H
      clear H
      go_wp2
      go_meet
      case rel => exact ⟨_, (true), (by first | rfl | (simp; done) | (simp [*]; done) | (simp [*, bne]; done)), H', ⟨by first | omega | exact Nat.le_refl _⟩, by repeat (first | exact Drawn0.refl _ | apply Drawn0.step)⟩
    · rw [if_neg c5] at H
      have c5b0 : decide ((l0.length : Int) < a1) = false := decide_eq_false c5
      clear c5
      (first | rw [c5b0] | (simp only [i64_w, i32_w]; rw [c5b0]) | skip)
      by_cases c6 : 0 < (l0.length : Int)
      · rw [if_pos c6] at H
        have c6b0 : decide (0 < (l0.length : Int)) = true := decide_eq_true c6
        have c6b1 : decide (0 < l0.length) = true := decide_eq_true (by omega)
        clear c6
        have H' := Aside0.mk H
        clear H
        have p290 : 0 ≤ (0 : Int) := (by omega)
        have q290 : 0 < (l0.length : Int) := of_decide_eq_true (by first | (with_reducible assumption) | assumption)
        obtain ⟨ad290, e290, hx290_0⟩ := Kd.at_int HR0.out 0 p290 q290
        cases e290
        have qi290 : (0 < l0.length) = True := eq_true (by omega)
        (try rw [show ((0 : Int)).toNat = 0 from rfl] at hx290_0)
        (try rw [Addr.add_zero'] at hx290_0)
        replace p290 := eq_true p290
        replace q290 := eq_true q290
        go_wp2
        go_meet
        case rel => exact ⟨_, (decide ((wrap64 (rd l0 0)) < a2)), (by first | rfl | (simp; done) | (simp [*]; done) | (simp [*, bne]; done)), H', ⟨by first | omega | exact Nat.le_refl _⟩, by repeat (first | exact Drawn0.refl _ | apply Drawn0.step)⟩
      · rw [if_neg c6] at H
        exact absurd H (by simp)
  case rest =>
    clear HC4
    try clear p2
    try clear q2
    try clear hx2
    try clear qi2
    try clear c5
    try clear c5b0
    try clear c6
    try clear c6b0
    try clear c6b1
    try clear p6
    try clear hx290_0
    try clear p290
    try clear q290
    obtain ⟨kq, x22_3, rfl, HA, HJ3, ⟨mc3, rfl⟩⟩ := hcut
    cases kq with
    | zero => exact absurd HA.out (by simp [utf_part_of.j0])
    | succ kj3 =>
      have H := HA.out
      clear HA
      simp only [utf_part_of.j0] at H
      by_cases c7 : x22_3 = true
      · subst c7
        have H1 : (some (0, false)) = some (r1, r2) := by rw [if_pos rfl] at H; exact H
        clear H
        have H := H1
        clear H1
        simp only [Option.some.injEq, Prod.mk.injEq] at H
        obtain ⟨rfl, rfl⟩ := H
        go_wp2
        go_ret2
        exact ⟨by first | rfl | (simp; done) | (simp [*]; done), by repeat (first | exact Drawn0.refl _ | apply Drawn0.step)⟩
      · replace c7 := Bool.eq_false_iff.mpr c7
        subst c7
        have H1 : (if 0 < (l0.length : Int) then (if 1 ≤ a1 then (if a1 ≤ (l0.length : Int) then ((some ((l0.take (a1 : Int).toNat).drop 1 : List Int)).bind fun y292 => (utf_part_of.l0 kj3 a1 (wrap64 ((wrap64 (rd l0 0)) - a2)) y292 (y292.length : Int) 0)) else (none)) else (none)) else (none)) = some (r1, r2) := by rw [if_neg (show ¬ (false = true) by decide)] at H; exact H
        clear H
        have H := H1
        clear H1
        by_cases c8 : 0 < (l0.length : Int)
        · rw [if_pos c8] at H
          have c8b0 : decide (0 < (l0.length : Int)) = true := decide_eq_true c8
          have c8b1 : decide (0 < l0.length) = true := decide_eq_true (by omega)
          clear c8
          by_cases c9 : 1 ≤ a1
          · rw [if_pos c9] at H
            have c9b0 := eq_true c9
            have c9b1 : decide (1 ≤ a1) = true := decide_eq_true c9
            clear c9
            by_cases c10 : a1 ≤ (l0.length : Int)
            · rw [if_pos c10] at H
              have c10b0 := eq_true c10
              have c10b1 : decide (a1 ≤ (l0.length : Int)) = true := decide_eq_true c10
              clear c10
              obtain ⟨y292, hy292⟩ : ∃ y_ : List Int, y_ = ((l0.take (a1 : Int).toNat).drop 1) := ⟨_, rfl⟩
              replace H : (utf_part_of.l0 kj3 a1 (wrap64 ((wrap64 (rd l0 0)) - a2)) y292 (y292.length : Int) 0) = some (r1, r2) := by first | (rw [hy292]; with_reducible exact H) | (have H2_ := (Option.bind_some _ _).symm.trans H; rw [hy292]; with_reducible exact H2_) | (have H2_ := (Option.bind_some _ _).symm.trans H; with_reducible exact H2_) | with_reducible exact H | (rw [hy292]; exact H) | exact H
              have Ny292 := Aside0.mk hy292
              clear hy292
              have H' := Aside0.mk H
              clear H
              have p291 : 0 ≤ (0 : Int) := (by omega)
              have q291 : 0 < (l0.length : Int) := of_decide_eq_true (by first | (with_reducible assumption) | assumption)
              obtain ⟨ad291, e291, hx291_0⟩ := Kd.at_int HR0.out 0 p291 q291
              cases e291
              have qi291 : (0 < l0.length) = True := eq_true (by omega)
              (try rw [show ((0 : Int)).toNat = 0 from rfl] at hx291_0)
              (try rw [Addr.add_zero'] at hx291_0)
              replace p291 := eq_true p291
              replace q291 := eq_true q291
              have q11 : (a1 : Int) ≤ ((l0.length : Int) : Int) := of_decide_eq_true (by first | (with_reducible assumption) | assumption)
              obtain ⟨i011, hi011, _, hsz11, _⟩ := info_parts info5
              have hroom11 : l0.length ≤ c0 := HC0.out
              have hC11 : Kd.C (Kd.int .u8) _ (some ad291) l0.length l0 := HR0.out
              have ql11 : (1 : Int) ≤ (a1 : Int) := of_decide_eq_true (by first | (with_reducible assumption) | assumption)
              have hcut11 := cut_mid (P := Try.prog) 73 5 .i64 .i64 Try.underlying73 hi011 1 hsz11 (some ad291) l0.length c0 1 a1 (by omega) ql11 q11 hroom11
              have hr11 := Kd.C_mid (lo := (1 : Int).toNat) (hi := (a1 : Int).toNat) (c := c0) hC11 (by omega) (by omega) hroom11
              obtain ⟨A11, hA11⟩ : ∃ A1_, A1_ = (if c0 = (1 : Int).toNat then (some ad291) else ((some ad291) : Option Addr).map (·.add ((1 : Int).toNat * 1))) := ⟨_, rfl⟩
              obtain ⟨c11, hc11⟩ : ∃ c1_, c1_ = c0 - (1 : Int).toNat := ⟨_, rfl⟩
              have hy11 : y292.length = (a1 : Int).toNat - (1 : Int).toNat := (by rw [Ny292.out, List.length_drop, List.length_take] <;> omega)
              rw [show ((l0).take (a1 : Int).toNat).drop (1 : Int).toNat = y292 from Ny292.out.symm] at hr11
              replace hr11 : Kd.C (Kd.int .u8) _ A11 y292.length y292 := (by rw [hA11]; exact hr11)
              rw [← hy11, ← hA11, ← hc11] at hcut11
              have HR295 := Aside0.mk hr11
              have HC295 := Aside0.mk (show y292.length ≤ c11 from by rw [hy11, hc11]; exact Nat.sub_le_sub_right (Nat.le_trans (by omega) hroom11) _)
              clear hr11 hC11 hroom11 hi011 hsz11 hc11
              have KY11 := Aside0.mk hy11
              have KA11 := Aside0.mk hA11
              clear hy11 hA11
              replace q11 := eq_true q11
              go_wp2
              go_loopg [8, 33] kj3 (fun kq v8 v33 w' => ∃ (x8_2 : Int) (x33_2 : Int), v8 = .int .i64 x8_2 ∧ v33 = .int .i64 x33_2 ∧ Aside0 (utf_part_of.l0 kq a1 x8_2 y292 (y292.length : Int) x33_2 = some (r1, r2)) ∧ Aside0 (kq ≤ kj3) ∧ Drawn0 w w')
              case atStart => exact ⟨(wrap64 ((wrap64 (rd l0 0)) - a2)), (0), (by first | rfl | (simp; done) | (simp [*]; done) | (simp [*, bne]; done)), (by first | rfl | (simp; done) | (simp [*]; done) | (simp [*, bne]; done)), H', ⟨Nat.le_refl _⟩, by repeat (first | exact Drawn0.refl _ | apply Drawn0.step)⟩
              case round =>
                clear H'
                try clear c1
                try clear q1
                try clear p2
                try clear q2
                try clear hx2
                try clear qi2
                try clear c3
                try clear c5
                try clear c5b0
                try clear c6
                try clear c6b0
                try clear c6b1
                try clear p6
                try clear c7
                try clear c8
                try clear c8b0
                try clear c8b1
                try clear c9
                try clear c9b0
                try clear c9b1
                try clear c10
                try clear c10b0
                try clear c10b1
                try clear c11
                try clear q11
                try clear hx290_0
                try clear hx291_0
                try clear p2
                try clear p290
                try clear p291
                try clear p6
                try clear q11
                try clear q2
                try clear q290
                try clear q291
                obtain ⟨x8_2, x33_2, rfl, rfl, HA, HK2, ⟨m2, rfl⟩⟩ := hrel
                cases gk with
                | zero => exact absurd HA.out (by simp [utf_part_of.l0])
                | succ k2 =>
                  have H := HA.out
                  clear HA
                  simp only [utf_part_of.l0] at H
                  by_cases c12 : x33_2 < (y292.length : Int)
                  · rw [if_pos c12] at H
                    have c12b0 : decide (x33_2 < (y292.length : Int)) = true := decide_eq_true c12
                    clear c12
                    by_cases c13 : 0 ≤ x33_2
                    · rw [if_pos c13] at H
                      have c13b0 : decide (0 ≤ x33_2) = true := decide_eq_true c13
                      clear c13
                      by_cases c14 : x33_2 < (y292.length : Int)
                      · rw [if_pos c14] at H
                        have c14b0 : decide (x33_2 < (y292.length : Int)) = true := decide_eq_true c14
                        clear c14
                        by_cases c15 : (Go.bits .andNot .u8 (rd y292 x33_2) 63) = 128
                        · rw [if_pos c15] at H
                          have c15b0 : ((Go.bits .andNot .u8 (rd y292 x33_2) 63) == 128) = true := beq_iff_eq.mpr c15
                          have c15b1 : ((Go.bits .andNot .u8 (rd y292 x33_2) 63) != 128) = false := bne_eq_false_iff_eq.mpr c15
                          clear c15
                          have H' := Aside0.mk H
                          clear H
                          have p296 : 0 ≤ (x33_2 : Int) := of_decide_eq_true (by first | (with_reducible assumption) | assumption)
                          have q296 : x33_2 < (y292.length : Int) := of_decide_eq_true (by first | (with_reducible assumption) | assumption)
                          obtain ⟨ad296, e296, hx296_0⟩ := Kd.at_int HR295.out x33_2 p296 q296
                          cases e296
                          replace p296 := eq_true p296
                          replace q296 := eq_true q296
                          go_wp2
                          go_roundg k2
                          case measure => have := HJ3.out; have := HK2.out; omega
                          case rel => exact ⟨(Go.bits .or .i64 (wrap64 (x8_2 * 64)) (wrap64 (Go.bits .and .u8 (rd y292 x33_2) 63))), (wrap64 (x33_2 + 1)), (by first | rfl | (simp; done) | (simp [*]; done) | (simp [*, bne]; done)), (by first | rfl | (simp; done) | (simp [*]; done) | (simp [*, bne]; done)), H', ⟨by have := HJ3.out; have := HK2.out; omega⟩, by repeat (first | exact Drawn0.refl _ | apply Drawn0.step)⟩
                        · rw [if_neg c15] at H
                          have c15b0 : ((Go.bits .andNot .u8 (rd y292 x33_2) 63) == 128) = false := beq_eq_false_iff_ne.mpr c15
                          have c15b1 : ((Go.bits .andNot .u8 (rd y292 x33_2) 63) != 128) = true := bne_iff_ne.mpr c15
                          simp only [Option.some.injEq, Prod.mk.injEq] at H
                          obtain ⟨rfl, rfl⟩ := H
                          have p296 : 0 ≤ (x33_2 : Int) := of_decide_eq_true (by first | (with_reducible assumption) | assumption)
                          have q296 : x33_2 < (y292.length : Int) := of_decide_eq_true (by first | (with_reducible assumption) | assumption)
                          obtain ⟨ad296, e296, hx296_0⟩ := Kd.at_int HR295.out x33_2 p296 q296
                          cases e296
                          replace p296 := eq_true p296
                          replace q296 := eq_true q296
                          go_wp2
                          go_ret2
                          exact ⟨by first | rfl | (simp; done) | (simp [*]; done), by repeat (first | exact Drawn0.refl _ | apply Drawn0.step)⟩
                      · rw [if_neg c14] at H
                        exact absurd H (by simp)
                    · rw [if_neg c13] at H
                      exact absurd H (by simp)
                  · rw [if_neg c12] at H
                    have c12b0 : decide (x33_2 < (y292.length : Int)) = false := decide_eq_false c12
                    clear c12
                    replace H := Option.bind_eq_some_iff.mp H
                    obtain ⟨t297, A160, H⟩ := H
                    replace H : (if t297 = true then ((utf_size.f x8_2).bind fun t298 => (some (x8_2, (t298 == a1)))) else (some (x8_2, false))) = some (r1, r2) := H
                    have A16 := Aside0.mk A160
                    clear A160
                    by_cases c17 : t297 = true
                    · subst c17
                      have H1 : ((utf_size.f x8_2).bind fun t298 => (some (x8_2, (t298 == a1)))) = some (r1, r2) := by rw [if_pos rfl] at H; exact H
                      clear H
                      have H := H1
                      clear H1
                      replace H := Option.bind_eq_some_iff.mp H
                      obtain ⟨t298, A180, H⟩ := H
                      replace H : (some (x8_2, (t298 == a1))) = some (r1, r2) := H
                      have A18 := Aside0.mk A180
                      clear A180
                      simp only [Option.some.injEq, Prod.mk.injEq] at H
                      obtain ⟨rfl, rfl⟩ := H
                      go_wp2_with (first | ((with_reducible refine gate_callee (f := 33) rfl ?_); refine goesL_ (some 49) rfl rfl Try.func33 (by kernel_rfl) rfl #[.int .i64 x8_2] rfl (by (try simp only [List.map_toArray, List.map_cons, List.map_nil]); first | done | rfl | (simp only [List.length_drop, List.length_take]; rfl)) ?_; (with_reducible refine (utf_May.calls x8_2 true _ A16.out).mono ?_); rintro e w' ⟨rfl, ⟨nd, rfl⟩⟩; refine ⟨_, rfl, ?_⟩) | (go_at_call 34; (with_reducible refine (utf_size.calls x8_2 t298 _ A18.out).mono ?_); rintro e w' ⟨rfl, ⟨nd, rfl⟩⟩))
                      go_ret2
                      exact ⟨by first | rfl | (simp; done) | (simp [*]; done), by repeat (first | exact Drawn0.refl _ | apply Drawn0.step)⟩
                    · replace c17 := Bool.eq_false_iff.mpr c17
                      subst c17
                      have H1 : (some (x8_2, false)) = some (r1, r2) := by rw [if_neg (show ¬ (false = true) by decide)] at H; exact H
                      clear H
                      have H := H1
                      clear H1
                      simp only [Option.some.injEq, Prod.mk.injEq] at H
                      obtain ⟨rfl, rfl⟩ := H
                      go_wp2_with (first | ((with_reducible refine gate_callee (f := 33) rfl ?_); refine goesL_ (some 49) rfl rfl Try.func33 (by kernel_rfl) rfl #[.int .i64 x8_2] rfl (by (try simp only [List.map_toArray, List.map_cons, List.map_nil]); first | done | rfl | (simp only [List.length_drop, List.length_take]; rfl)) ?_; (with_reducible refine (utf_May.calls x8_2 false _ A16.out).mono ?_); rintro e w' ⟨rfl, ⟨nd, rfl⟩⟩; refine ⟨_, rfl, ?_⟩))
                      go_ret2
                      exact ⟨by first | rfl | (simp; done) | (simp [*]; done), by repeat (first | exact Drawn0.refl _ | apply Drawn0.step)⟩
            · rw [if_neg c10] at H
              exact absurd H (by simp)
          · rw [if_neg c9] at H
            exact absurd H (by simp)
        · rw [if_neg c8] at H
          exact absurd H (by simp)
def utf_part_one.f (k : Nat) (l0 : List Int) : Option (Int × Bool) := (utf_part_of.f k l0 1 0).bind fun bt299 => (some (bt299.1, bt299.2))
theorem utf_part_one.mono : ∀ a0 k, LeO (utf_part_one.f k a0) (utf_part_one.f (k + 1) a0) := by
  intro a0 k
  unfold utf_part_one.f
  repeat' first
      | (with_reducible exact utf_part_of.mono _ _ _ _)
      | (with_reducible exact LeO.refl _)
      | (with_reducible exact LeO.none _)
      | (with_reducible refine LeO.ite ?_ ?_)
      | (with_reducible refine LeO.bind ?_ (fun _ => ?_))
      | exact utf_part_of.mono _ _ _ _
      | exact LeO.none _
      | refine LeO.ite ?_ ?_
      | refine LeO.bind ?_ (fun _ => ?_)
set_option maxHeartbeats 8000000 in
set_option maxRecDepth 100000 in
theorem utf_part_one.calls (k : Nat) (A0 : Option Addr) (c0 : Nat) (l0 : List Int) (r1 : Int) (r2 : Bool) (w : World) (hr0 : Kd.C (Kd.int .u8) w A0 l0.length l0) (hc0 : l0.length ≤ c0) (h : utf_part_one.f k l0 = some (r1, r2)) :
    Calls Try.prog 45 #[.slice A0 l0.length c0] w fun e w' => e = .returned (.tuple #[.int .i64 r1, .bool r2]) ∧ Drawn0 w w' := by
  have HR0 := Aside0.mk hr0
  have HC0 := Aside0.mk hc0
  clear hr0 hc0
  have H : ((utf_part_of.f k l0 1 0).bind fun bt299 => (some (bt299.1, bt299.2))) = some (r1, r2) := h
  clear h
  replace H := Option.bind_eq_some_iff.mp H
  obtain ⟨⟨t299, t300⟩, A20, H⟩ := H
  replace H : (some (t299, t300)) = some (r1, r2) := H
  have A2 := Aside0.mk A20
  clear A20
  simp only [Option.some.injEq, Prod.mk.injEq] at H
  obtain ⟨rfl, rfl⟩ := H
  go_enter Try.func45, Try.ntmps45
  go_wp2_with (first | ((with_reducible refine gate_callee (f := 64) rfl ?_); refine goesL_ (some 5) rfl rfl Try.func64 (by kernel_rfl) rfl #[.slice A0 l0.length c0, .int .i64 1, .int .i64 0] rfl (by (try simp only [List.map_toArray, List.map_cons, List.map_nil]); first | done | rfl | (simp only [List.length_drop, List.length_take]; rfl)) ?_; (with_reducible refine (utf_part_of.calls k _ _ l0 1 0 t299 t300 _ ?side1 ?side2 A2.out).mono ?_); (case side1 => repeat (first | exact HR0.out | (with_reducible refine Kd.C_alloc ?_ _) | (with_reducible refine Kd.C_drewN ?_ _) | (with_reducible refine Kd.C_drew ?_))); (case side2 => exact HC0.out); rintro e w' ⟨rfl, ⟨nd, rfl⟩⟩; refine ⟨_, rfl, ?_⟩))
  go_ret2
  exact ⟨by first | rfl | (simp; done) | (simp [*]; done), by repeat (first | exact Drawn0.refl _ | apply Drawn0.step)⟩
end Go.Proofs.Ytcdahnkdongmdaa.All
