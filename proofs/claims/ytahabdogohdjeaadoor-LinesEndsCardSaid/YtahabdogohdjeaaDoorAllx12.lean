/- Contracts of functions of the program, each for every input, printed for this claim by a program out of the translation, some written by hand. -/
import Derived.Test.YtahabdogohdjeaaDoorAllx0
import Derived.Test.YtahabdogohdjeaaDoorAllx1
import Derived.Test.YtahabdogohdjeaaDoorAllx4
namespace Go.Proofs.YtahabdogohdjeaaDoor.All
open Go.RowKit Go.Proofs.YtahabdogohdjeaaDoorW.PrintWords Go.Proofs.YtahabdogohdjeaaDoorW.PrintLast Go.Proofs.YtahabdogohdjeaaDoorW.PrintMore
attribute [local go_sem] max2_int min2_int max_two min_two max_three min_three max_four min_four   -- for this text's walks alone
set_option linter.unusedVariables false
set_option linter.unusedSimpArgs false

/-! ### exegetelaw04_LinesEnds: function 6 -/
mutual
def exegetelaw04_LinesEnds.j0 : Nat → List Int → Bool → Bool → Option (Bool)
  | 0, _, _, _ => none
  | k + 1, x0, x3, x15 => if x15 = true then (some x3) else ((lines_Ends.f x0).bind fun t207 => (if (t207.length : Int) = 0 then (exegetelaw04_LinesEnds.j1 k x0 t207 true) else (if 0 ≤ (wrap64 ((t207.length : Int) - 1)) then (if (wrap64 ((t207.length : Int) - 1)) < (t207.length : Int) then (exegetelaw04_LinesEnds.j1 k x0 t207 ((rd t207 (wrap64 ((t207.length : Int) - 1))) != (x0.length : Int))) else (none)) else (none))))
def exegetelaw04_LinesEnds.j1 : Nat → List Int → List Int → Bool → Option (Bool)
  | 0, _, _, _ => none
  | k + 1, x0, x4, x32 => if x32 = true then (some false) else (exegetelaw04_LinesEnds.l0 k x0 x4 0 0)
def exegetelaw04_LinesEnds.l0 : Nat → List Int → List Int → Int → Int → Option (Bool)
  | 0, _, _, _, _ => none
  | k + 1, x0, x4, x5, x6 => if x6 < (x4.length : Int) then (if 0 ≤ x6 then (if (rd x4 x6) < x5 then (exegetelaw04_LinesEnds.j3 k x0 x4 x5 x6 true) else (if x6 > 0 then (if (rd x4 x6) = x5 then (exegetelaw04_LinesEnds.j3 k x0 x4 x5 x6 true) else (exegetelaw04_LinesEnds.j3 k x0 x4 x5 x6 (decide ((rd x4 x6) > (x0.length : Int))))) else (exegetelaw04_LinesEnds.j3 k x0 x4 x5 x6 (decide ((rd x4 x6) > (x0.length : Int)))))) else (none)) else (some true)
def exegetelaw04_LinesEnds.j3 : Nat → List Int → List Int → Int → Int → Bool → Option (Bool)
  | 0, _, _, _, _, _ => none
  | k + 1, x0, x4, x5, x6, x65 => if x65 = true then (some false) else (exegetelaw04_LinesEnds.l1 k x0 x4 x6 x5)
def exegetelaw04_LinesEnds.l1 : Nat → List Int → List Int → Int → Int → Option (Bool)
  | 0, _, _, _, _ => none
  | k + 1, x0, x4, x6, x7 => if 0 ≤ x6 then (if x6 < (x4.length : Int) then (if x7 < (rd x4 x6) then (if 0 ≤ x7 then (if x7 < (x0.length : Int) then (if (rd x0 x7) = 10 then (if x7 = (wrap64 ((rd x4 x6) - 1)) then (exegetelaw04_LinesEnds.l1 k x0 x4 x6 (wrap64 (x7 + 1))) else (some false)) else (exegetelaw04_LinesEnds.l1 k x0 x4 x6 (wrap64 (x7 + 1)))) else (none)) else (none)) else (if x6 < (wrap64 ((x4.length : Int) - 1)) then (if (rd x4 x6) = 0 then (some false) else (if 0 ≤ (wrap64 ((rd x4 x6) - 1)) then (if (wrap64 ((rd x4 x6) - 1)) < (x0.length : Int) then (if (rd x0 (wrap64 ((rd x4 x6) - 1))) = 10 then (exegetelaw04_LinesEnds.l0 k x0 x4 (rd x4 x6) (wrap64 (x6 + 1))) else (some false)) else (none)) else (none))) else (exegetelaw04_LinesEnds.l0 k x0 x4 (rd x4 x6) (wrap64 (x6 + 1))))) else (none)) else (none)
end
def exegetelaw04_LinesEnds.f (k : Nat) (l0 : List Int) : Option (Bool) := (exegetelaw04_awake.f k).bind fun t206 => (if t206 = true then (exegetelaw04_LinesEnds.j0 k l0 t206 (decide ((l0.length : Int) > 300))) else (exegetelaw04_LinesEnds.j0 k l0 t206 true))
theorem exegetelaw04_LinesEnds.mono_l : ∀ k, (∀ y0 y1 y2, LeO (exegetelaw04_LinesEnds.j0 k y0 y1 y2) (exegetelaw04_LinesEnds.j0 (k + 1) y0 y1 y2)) ∧ (∀ y0 y1 y2, LeO (exegetelaw04_LinesEnds.j1 k y0 y1 y2) (exegetelaw04_LinesEnds.j1 (k + 1) y0 y1 y2)) ∧ (∀ y0 y1 y2 y3, LeO (exegetelaw04_LinesEnds.l0 k y0 y1 y2 y3) (exegetelaw04_LinesEnds.l0 (k + 1) y0 y1 y2 y3)) ∧ (∀ y0 y1 y2 y3 y4, LeO (exegetelaw04_LinesEnds.j3 k y0 y1 y2 y3 y4) (exegetelaw04_LinesEnds.j3 (k + 1) y0 y1 y2 y3 y4)) ∧ (∀ y0 y1 y2 y3, LeO (exegetelaw04_LinesEnds.l1 k y0 y1 y2 y3) (exegetelaw04_LinesEnds.l1 (k + 1) y0 y1 y2 y3))
  | 0 => ⟨fun _ _ _ r h => by simp [exegetelaw04_LinesEnds.j0] at h, fun _ _ _ r h => by simp [exegetelaw04_LinesEnds.j1] at h, fun _ _ _ _ r h => by simp [exegetelaw04_LinesEnds.l0] at h, fun _ _ _ _ _ r h => by simp [exegetelaw04_LinesEnds.j3] at h, fun _ _ _ _ r h => by simp [exegetelaw04_LinesEnds.l1] at h⟩
  | k + 1 => by
    obtain ⟨ih0, ih1, ih2, ih3, ih4⟩ := exegetelaw04_LinesEnds.mono_l k
    refine ⟨?_, ?_, ?_, ?_, ?_⟩
    · intro y0 y1 y2
      unfold exegetelaw04_LinesEnds.j0
      repeat' first
      | (with_reducible exact ih0 _ _ _)
      | (with_reducible exact ih1 _ _ _)
      | (with_reducible exact ih2 _ _ _ _)
      | (with_reducible exact ih3 _ _ _ _ _)
      | (with_reducible exact ih4 _ _ _ _)
      | (with_reducible exact exegetelaw04_awake.mono _)
      | (with_reducible exact LeO.refl _)
      | (with_reducible exact LeO.none _)
      | (with_reducible refine LeO.ite ?_ ?_)
      | (with_reducible refine LeO.bind ?_ (fun _ => ?_))
      | exact ih0 _ _ _
      | exact ih1 _ _ _
      | exact ih2 _ _ _ _
      | exact ih3 _ _ _ _ _
      | exact ih4 _ _ _ _
      | exact exegetelaw04_awake.mono _
      | exact LeO.none _
      | refine LeO.ite ?_ ?_
      | refine LeO.bind ?_ (fun _ => ?_)
    · intro y0 y1 y2
      unfold exegetelaw04_LinesEnds.j1
      repeat' first
      | (with_reducible exact ih0 _ _ _)
      | (with_reducible exact ih1 _ _ _)
      | (with_reducible exact ih2 _ _ _ _)
      | (with_reducible exact ih3 _ _ _ _ _)
      | (with_reducible exact ih4 _ _ _ _)
      | (with_reducible exact exegetelaw04_awake.mono _)
      | (with_reducible exact LeO.refl _)
      | (with_reducible exact LeO.none _)
      | (with_reducible refine LeO.ite ?_ ?_)
      | (with_reducible refine LeO.bind ?_ (fun _ => ?_))
      | exact ih0 _ _ _
      | exact ih1 _ _ _
      | exact ih2 _ _ _ _
      | exact ih3 _ _ _ _ _
      | exact ih4 _ _ _ _
      | exact exegetelaw04_awake.mono _
      | exact LeO.none _
      | refine LeO.ite ?_ ?_
      | refine LeO.bind ?_ (fun _ => ?_)
    · intro y0 y1 y2 y3
      unfold exegetelaw04_LinesEnds.l0
      repeat' first
      | (with_reducible exact ih0 _ _ _)
      | (with_reducible exact ih1 _ _ _)
      | (with_reducible exact ih2 _ _ _ _)
      | (with_reducible exact ih3 _ _ _ _ _)
      | (with_reducible exact ih4 _ _ _ _)
      | (with_reducible exact exegetelaw04_awake.mono _)
      | (with_reducible exact LeO.refl _)
      | (with_reducible exact LeO.none _)
      | (with_reducible refine LeO.ite ?_ ?_)
      | (with_reducible refine LeO.bind ?_ (fun _ => ?_))
      | exact ih0 _ _ _
      | exact ih1 _ _ _
      | exact ih2 _ _ _ _
      | exact ih3 _ _ _ _ _
      | exact ih4 _ _ _ _
      | exact exegetelaw04_awake.mono _
      | exact LeO.none _
      | refine LeO.ite ?_ ?_
      | refine LeO.bind ?_ (fun _ => ?_)
    · intro y0 y1 y2 y3 y4
      unfold exegetelaw04_LinesEnds.j3
      repeat' first
      | (with_reducible exact ih0 _ _ _)
      | (with_reducible exact ih1 _ _ _)
      | (with_reducible exact ih2 _ _ _ _)
      | (with_reducible exact ih3 _ _ _ _ _)
      | (with_reducible exact ih4 _ _ _ _)
      | (with_reducible exact exegetelaw04_awake.mono _)
      | (with_reducible exact LeO.refl _)
      | (with_reducible exact LeO.none _)
      | (with_reducible refine LeO.ite ?_ ?_)
      | (with_reducible refine LeO.bind ?_ (fun _ => ?_))
      | exact ih0 _ _ _
      | exact ih1 _ _ _
      | exact ih2 _ _ _ _
      | exact ih3 _ _ _ _ _
      | exact ih4 _ _ _ _
      | exact exegetelaw04_awake.mono _
      | exact LeO.none _
      | refine LeO.ite ?_ ?_
      | refine LeO.bind ?_ (fun _ => ?_)
    · intro y0 y1 y2 y3
      unfold exegetelaw04_LinesEnds.l1
      repeat' first
      | (with_reducible exact ih0 _ _ _)
      | (with_reducible exact ih1 _ _ _)
      | (with_reducible exact ih2 _ _ _ _)
      | (with_reducible exact ih3 _ _ _ _ _)
      | (with_reducible exact ih4 _ _ _ _)
      | (with_reducible exact exegetelaw04_awake.mono _)
      | (with_reducible exact LeO.refl _)
      | (with_reducible exact LeO.none _)
      | (with_reducible refine LeO.ite ?_ ?_)
      | (with_reducible refine LeO.bind ?_ (fun _ => ?_))
      | exact ih0 _ _ _
      | exact ih1 _ _ _
      | exact ih2 _ _ _ _
      | exact ih3 _ _ _ _ _
      | exact ih4 _ _ _ _
      | exact exegetelaw04_awake.mono _
      | exact LeO.none _
      | refine LeO.ite ?_ ?_
      | refine LeO.bind ?_ (fun _ => ?_)
theorem exegetelaw04_LinesEnds.mono : ∀ a0 k, LeO (exegetelaw04_LinesEnds.f k a0) (exegetelaw04_LinesEnds.f (k + 1) a0) := by
  intro a0 k
  obtain ⟨ih0, ih1, ih2, ih3, ih4⟩ := exegetelaw04_LinesEnds.mono_l k
  unfold exegetelaw04_LinesEnds.f
  repeat' first
      | (with_reducible exact ih0 _ _ _)
      | (with_reducible exact ih1 _ _ _)
      | (with_reducible exact ih2 _ _ _ _)
      | (with_reducible exact ih3 _ _ _ _ _)
      | (with_reducible exact ih4 _ _ _ _)
      | (with_reducible exact exegetelaw04_awake.mono _)
      | (with_reducible exact LeO.refl _)
      | (with_reducible exact LeO.none _)
      | (with_reducible refine LeO.ite ?_ ?_)
      | (with_reducible refine LeO.bind ?_ (fun _ => ?_))
      | exact ih0 _ _ _
      | exact ih1 _ _ _
      | exact ih2 _ _ _ _
      | exact ih3 _ _ _ _ _
      | exact ih4 _ _ _ _
      | exact exegetelaw04_awake.mono _
      | exact LeO.none _
      | refine LeO.ite ?_ ?_
      | refine LeO.bind ?_ (fun _ => ?_)
set_option maxHeartbeats 8000000 in
set_option maxRecDepth 100000 in
theorem exegetelaw04_LinesEnds.calls (k : Nat) (A0 : Option Addr) (c0 : Nat) (l0 : List Int) (r : Bool) (w : World) (hr0 : Kd.C (Kd.int .u8) w A0 l0.length l0) (hc0 : l0.length ≤ c0) (h : exegetelaw04_LinesEnds.f k l0 = some r) :
    Calls Tryd.prog 6 #[.slice A0 l0.length c0] w fun e w' => e = .returned (.bool r) ∧ Below w.heap.size w w' := by
  have HR0 := Aside0.mk hr0
  have HC0 := Aside0.mk hc0
  clear hr0 hc0
  have HB := Aside0.mk (Below.refl w.heap.size w)
  have H : ((exegetelaw04_awake.f k).bind fun t206 => (if t206 = true then (exegetelaw04_LinesEnds.j0 k l0 t206 (decide ((l0.length : Int) > 300))) else (exegetelaw04_LinesEnds.j0 k l0 t206 true))) = some r := h
  clear h
  replace H := Option.bind_eq_some_iff.mp H
  obtain ⟨t206, A20, H⟩ := H
  replace H : (if t206 = true then (exegetelaw04_LinesEnds.j0 k l0 t206 (decide ((l0.length : Int) > 300))) else (exegetelaw04_LinesEnds.j0 k l0 t206 true)) = some r := H
  have A2 := Aside0.mk A20
  clear A20
  have HC3 := Aside0.mk H
  clear H
  go_enter Tryd.func6, Tryd.ntmps6
  go_upto_region 2 with (first | ((with_reducible refine gate_callee (f := 10) rfl ?_); refine goesL_ (some 8) rfl rfl Tryd.func10 (by kernel_rfl) rfl #[] rfl (by (try simp only [List.map_toArray, List.map_cons, List.map_nil]); first | done | rfl | (simp only [List.length_drop, List.length_take]; rfl)) ?_; (with_reducible refine (exegetelaw04_awake.calls k  t206 _ A2.out).mono ?_); rintro e w4 ⟨rfl, hb⟩; refine ⟨_, rfl, ?_⟩; have n0_ := Aside0.mk (below_step (by repeat (first | (with_reducible first | exact HB.out | apply below_alloc | apply pw_below_drewN | apply below_drew1) | exact HB.out)) hb); clear HB; have HB := n0_; clear n0_; (try clear hb); (try clear hb2); (try clear hk); (try clear hi)))
  (try simp only [Act.put, List.setIfInBounds_toArray, List.set_cons_zero, List.set_cons_succ])
  go_cut [15] (fun v15 wc => ∃ (kq : Nat) (x15_2 : Bool), v15 = .bool x15_2 ∧ Aside0 (exegetelaw04_LinesEnds.j0 kq l0 t206 x15_2 = some r) ∧ Aside0 (kq ≤ k) ∧ Aside0 (Below w.heap.size w wc))
  case first =>
    have H := HC3.out
    clear HC3
    by_cases c5 : t206 = true
    · subst c5
      have H1 : (exegetelaw04_LinesEnds.j0 k l0 true (decide ((l0.length : Int) > 300))) = some r := by rw [if_pos rfl] at H; exact H
      clear H
      have H := H1
      clear H1
      have H' := Aside0.mk H
      clear H
      go_wp2
      go_meet
      case rel => exact ⟨_, (decide ((l0.length : Int) > 300)), (by first | rfl | (simp; done) | (simp [*]; done)), H', ⟨by first | omega | exact Nat.le_refl _⟩, ⟨by repeat (first | (with_reducible first | exact HB.out | apply below_alloc | apply pw_below_drewN | apply below_drew1) | exact HB.out)⟩⟩
    · replace c5 := Bool.eq_false_iff.mpr c5
      subst c5
      have H1 : (exegetelaw04_LinesEnds.j0 k l0 false true) = some r := by rw [if_neg (show ¬ (false = true) by decide)] at H; exact H
      clear H
      have H := H1
      clear H1
      have H' := Aside0.mk H
      clear H
      go_wp2
      go_meet
      case rel => exact ⟨_, (true), (by first | rfl | (simp; done) | (simp [*]; done)), H', ⟨by first | omega | exact Nat.le_refl _⟩, ⟨by repeat (first | (with_reducible first | exact HB.out | apply below_alloc | apply pw_below_drewN | apply below_drew1) | exact HB.out)⟩⟩
  case rest =>
    clear HC3
    try clear c1
    try clear p2
    try clear c5
    obtain ⟨kq, x15_2, rfl, HA, HJ2, HB⟩ := hcut
    cases kq with
    | zero => exact absurd HA.out (by simp [exegetelaw04_LinesEnds.j0])
    | succ kj2 =>
      have H := HA.out
      clear HA
      simp only [exegetelaw04_LinesEnds.j0] at H
      by_cases c6 : x15_2 = true
      · subst c6
        have H1 : (some t206) = some r := by rw [if_pos rfl] at H; exact H
        clear H
        have H := H1
        clear H1
        obtain rfl := Option.some.inj H
        go_wp2
        go_ret
        exact ⟨by first | rfl | (simp [errW_none, errW_some] <;> rfl) | (simp [*, errW_none, errW_some] <;> rfl), by repeat (first | (with_reducible first | exact HB.out | apply below_alloc | apply pw_below_drewN | apply below_drew1) | exact HB.out)⟩
      · replace c6 := Bool.eq_false_iff.mpr c6
        subst c6
        have H1 : ((lines_Ends.f l0).bind fun t207 => (if (t207.length : Int) = 0 then (exegetelaw04_LinesEnds.j1 kj2 l0 t207 true) else (if 0 ≤ (wrap64 ((t207.length : Int) - 1)) then (if (wrap64 ((t207.length : Int) - 1)) < (t207.length : Int) then (exegetelaw04_LinesEnds.j1 kj2 l0 t207 ((rd t207 (wrap64 ((t207.length : Int) - 1))) != (l0.length : Int))) else (none)) else (none)))) = some r := by rw [if_neg (show ¬ (false = true) by decide)] at H; exact H
        clear H
        have H := H1
        clear H1
        replace H := Option.bind_eq_some_iff.mp H
        obtain ⟨t207, A70, H⟩ := H
        replace H : (if (t207.length : Int) = 0 then (exegetelaw04_LinesEnds.j1 kj2 l0 t207 true) else (if 0 ≤ (wrap64 ((t207.length : Int) - 1)) then (if (wrap64 ((t207.length : Int) - 1)) < (t207.length : Int) then (exegetelaw04_LinesEnds.j1 kj2 l0 t207 ((rd t207 (wrap64 ((t207.length : Int) - 1))) != (l0.length : Int))) else (none)) else (none))) = some r := H
        have A7 := Aside0.mk A70
        clear A70
        have HC8 := Aside0.mk H
        clear H
        go_upto_region 5 with (first | ((with_reducible refine gate_callee (f := 12) rfl ?_); refine goesL_ (some 18) rfl rfl Tryd.func12 (by kernel_rfl) rfl #[.slice A0 l0.length c0] rfl (by (try simp only [List.map_toArray, List.map_cons, List.map_nil]); first | done | rfl | (simp only [List.length_drop, List.length_take]; rfl)) ?_; (with_reducible refine (lines_Ends.calls _ _ l0 t207 _ ?side1 ?side2 A7.out).mono ?_); (case side1 => repeat (first | exact (Kd.C_below HR0.out HB.out) | (with_reducible refine Kd.C_alloc ?_ _) | (with_reducible refine Kd.C_drewN ?_ _) | (with_reducible refine Kd.C_drew ?_))); (case side2 => exact HC0.out); rintro e w9 ⟨v208, rfl, ho0, hb⟩; refine ⟨_, rfl, ?_⟩; have n0_ := Aside0.mk (Kd.R_lower ho0 (below_size (by repeat (first | (with_reducible first | exact HB.out | apply below_alloc | apply pw_below_drewN | apply below_drew1) | exact HB.out)))); have n1_ := Aside0.mk (below_step (by repeat (first | (with_reducible first | exact HB.out | apply below_alloc | apply pw_below_drewN | apply below_drew1) | exact HB.out)) hb); clear HB; have HO209 := n0_; have HB := n1_; clear n0_ n1_; (try clear hb); (try clear hb2); (try clear hk); (try clear hi); (try clear ho0)))
        (try simp only [Act.put, List.setIfInBounds_toArray, List.set_cons_zero, List.set_cons_succ])
        go_cut [32] (fun v32 wc => ∃ (kq : Nat) (x32_7 : Bool), v32 = .bool x32_7 ∧ Aside0 (exegetelaw04_LinesEnds.j1 kq l0 t207 x32_7 = some r) ∧ Aside0 (kq ≤ kj2) ∧ Aside0 (Kd.R (Kd.int .i64) 3 wc w.heap.size (fun _ => True) v208 t207) ∧ Aside0 (Below w.heap.size w wc))
        case first =>
          have H := HC8.out
          clear HC8
          by_cases c10 : (t207.length : Int) = 0
          · rw [if_pos c10] at H
            have c10b0 : ((t207.length : Int) == 0) = true := beq_iff_eq.mpr c10
            have c10b1 : ((t207.length : Int) != 0) = false := bne_eq_false_iff_eq.mpr c10
            clear c10
            (first | rw [c10b0] | (simp only [i64_w, i32_w]; rw [c10b0]) | skip)
            have H' := Aside0.mk H
            clear H
            obtain ⟨Ao11, co11, eo11⟩ := Kd.R_slice HO209.out
            subst eo11
            go_wp2
            go_meet
            case rel => exact ⟨_, (true), (by first | rfl | (simp; done) | (simp [*]; done)), H', ⟨by have := HJ2.out; first | omega | exact Nat.le_refl _⟩, ⟨by (with_reducible repeat (first | apply Kd.R_alloc | apply Kd.R_drewN | apply Kd.R_drew)); exact HO209.out⟩, ⟨by repeat (first | (with_reducible first | exact HB.out | apply below_alloc | apply pw_below_drewN | apply below_drew1) | exact HB.out)⟩⟩
          · rw [if_neg c10] at H
            have c10b0 : ((t207.length : Int) == 0) = false := beq_eq_false_iff_ne.mpr c10
            have c10b1 : ((t207.length : Int) != 0) = true := bne_iff_ne.mpr c10
            have c10b2 : ¬ (t207 = []) := fun h_ => c10 (by rw [h_]; rfl)
            (first | rw [c10b0] | (simp only [i64_w, i32_w]; rw [c10b0]) | skip)
            obtain ⟨ji12, hji12⟩ : ∃ j_ : Int, (wrap64 ((t207.length : Int) - 1)) = j_ := ⟨_, rfl⟩
            replace H : (if 0 ≤ (ji12) then (if (ji12) < (t207.length : Int) then (exegetelaw04_LinesEnds.j1 kj2 l0 t207 ((rd t207 (ji12)) != (l0.length : Int))) else (none)) else (none)) = some r := by first | (rw [hji12] at H; exact H) | (simp only [hji12] at H ⊢; exact H)
            have hji12w : (IntKind.i64.wrap ((t207.length : Int) - 1)) = ji12 := (i64_w _).trans hji12
            by_cases c13 : 0 ≤ (ji12)
            · rw [if_pos c13] at H
              have c13b0 : decide (0 ≤ (ji12)) = true := decide_eq_true c13
              clear c13
              by_cases c14 : (ji12) < (t207.length : Int)
              · rw [if_pos c14] at H
                have c14b0 : decide ((ji12) < (t207.length : Int)) = true := decide_eq_true c14
                clear c14
                have H' := Aside0.mk H
                clear H
                obtain ⟨Ao15, co15, eo15⟩ := Kd.R_slice HO209.out
                subst eo15
                have p210 : 0 ≤ ((ji12) : Int) := of_decide_eq_true (by first | (with_reducible assumption) | assumption)
                have q210 : (ji12) < (t207.length : Int) := of_decide_eq_true (by first | (with_reducible assumption) | assumption)
                obtain ⟨ad210, e210, hx210_0⟩ := Kd.at_int (Kd.R_reads' HO209.out).2.2 (ji12) p210 q210
                cases e210
                replace p210 := eq_true p210
                replace q210 := eq_true q210
                go_wp2
                go_meet
                case rel => exact ⟨_, (((rd t207 (ji12)) != (l0.length : Int))), (by first | rfl | (simp; done) | (simp only [← hji12] <;> (first | rfl | simp)) | (simp [*]; done)), H', ⟨by have := HJ2.out; first | omega | exact Nat.le_refl _⟩, ⟨by (with_reducible repeat (first | apply Kd.R_alloc | apply Kd.R_drewN | apply Kd.R_drew)); exact HO209.out⟩, ⟨by repeat (first | (with_reducible first | exact HB.out | apply below_alloc | apply pw_below_drewN | apply below_drew1) | exact HB.out)⟩⟩
              · rw [if_neg c14] at H
                exact absurd H (by simp)
            · rw [if_neg c13] at H
              exact absurd H (by simp)
        case rest =>
          clear HC8
          try clear c1
          try clear p2
          try clear q2
          try clear hx2
          try clear c5
          try clear c6
          try clear p6
          try clear c10
          try clear c10b0
          try clear c10b1
          try clear c10b2
          try clear c12
          try clear c13
          try clear c13b0
          try clear c14
          try clear c14b0
          try clear hx210_0
          try clear p2
          try clear p210
          try clear q210
          obtain ⟨kq, x32_7, rfl, HA, HJ7, HO_4, HB⟩ := hcut
          cases kq with
          | zero => exact absurd HA.out (by simp [exegetelaw04_LinesEnds.j1])
          | succ kj7 =>
            have H := HA.out
            clear HA
            simp only [exegetelaw04_LinesEnds.j1] at H
            by_cases c16 : x32_7 = true
            · subst c16
              have H1 : (some false) = some r := by rw [if_pos rfl] at H; exact H
              clear H
              have H := H1
              clear H1
              obtain rfl := Option.some.inj H
              go_wp2
              go_ret
              exact ⟨by first | rfl | (simp [errW_none, errW_some] <;> rfl) | (simp [*, errW_none, errW_some] <;> rfl), by repeat (first | (with_reducible first | exact HB.out | apply below_alloc | apply pw_below_drewN | apply below_drew1) | exact HB.out)⟩
            · replace c16 := Bool.eq_false_iff.mpr c16
              subst c16
              have H1 : (exegetelaw04_LinesEnds.l0 kj7 l0 t207 0 0) = some r := by rw [if_neg (show ¬ (false = true) by decide)] at H; exact H
              clear H
              have H := H1
              clear H1
              have H' := Aside0.mk H
              clear H
              go_wp2
              go_loopg [5, 6] kj7 (fun kq v5 v6 w' => ∃ (x5_3 : Int) (x6_3 : Int), v5 = .int .i64 x5_3 ∧ v6 = .int .i64 x6_3 ∧ Aside0 (exegetelaw04_LinesEnds.l0 kq l0 t207 x5_3 x6_3 = some r) ∧ Aside0 (kq ≤ kj7) ∧ Aside0 (Kd.R (Kd.int .i64) 3 w' w.heap.size (fun _ => True) v208 t207) ∧ Aside0 (Below w.heap.size w w'))
              case atStart => exact ⟨(0), (0), (by first | rfl | (simp; done) | (simp [*]; done)), (by first | rfl | (simp; done) | (simp [*]; done)), H', ⟨Nat.le_refl _⟩, ⟨by (with_reducible repeat (first | apply Kd.R_alloc | apply Kd.R_drewN | apply Kd.R_drew)); exact HO_4.out⟩, ⟨by repeat (first | (with_reducible first | exact HB.out | apply below_alloc | apply pw_below_drewN | apply below_drew1) | exact HB.out)⟩⟩
              case round =>
                clear H'
                try clear c1
                try clear p2
                try clear q2
                try clear hx2
                try clear c5
                try clear c6
                try clear p6
                try clear c10
                try clear c10b0
                try clear c10b1
                try clear c10b2
                try clear c12
                try clear c13
                try clear c13b0
                try clear c14
                try clear c14b0
                try clear c16
                try clear hx210_0
                try clear p2
                try clear p210
                try clear p6
                try clear q2
                try clear q210
                obtain ⟨x5_3, x6_3, rfl, rfl, HA, HK3, HO_4, HB⟩ := hrel
                cases gk with
                | zero => exact absurd HA.out (by simp [exegetelaw04_LinesEnds.l0])
                | succ k3 =>
                  have H := HA.out
                  clear HA
                  simp only [exegetelaw04_LinesEnds.l0] at H
                  by_cases c17 : x6_3 < (t207.length : Int)
                  · rw [if_pos c17] at H
                    have c17b0 : decide (x6_3 < (t207.length : Int)) = true := decide_eq_true c17
                    clear c17
                    have HC18 := Aside0.mk H
                    clear H
                    obtain ⟨Ao19, co19, eo19⟩ := Kd.R_slice HO_4.out
                    subst eo19
                    go_upto_region 11 with (fail)
                    go_cut [65] (fun v65 wc => ∃ (kq : Nat) (x65_17 : Bool), v65 = .bool x65_17 ∧ Aside0 (exegetelaw04_LinesEnds.j3 kq l0 t207 x5_3 x6_3 x65_17 = some r) ∧ Aside0 (kq ≤ k3) ∧ Aside0 (Kd.R (Kd.int .i64) 3 wc w.heap.size (fun _ => True) (.slice Ao19 t207.length co19) t207) ∧ Aside0 (Below w.heap.size w wc))
                    case first =>
                      have H := HC18.out
                      clear HC18
                      by_cases c20 : 0 ≤ x6_3
                      · rw [if_pos c20] at H
                        have c20b0 : decide (0 ≤ x6_3) = true := decide_eq_true c20
                        clear c20
                        (first | rw [c20b0] | (simp only [i64_w, i32_w]; rw [c20b0]) | skip)
                        by_cases c21 : (rd t207 x6_3) < x5_3
                        · rw [if_pos c21] at H
                          have c21b0 : decide ((rd t207 x6_3) < x5_3) = true := decide_eq_true c21
                          clear c21
                          have H' := Aside0.mk H
                          clear H
                          have p211 : 0 ≤ (x6_3 : Int) := of_decide_eq_true (by first | (with_reducible assumption) | assumption)
                          have q211 : x6_3 < (t207.length : Int) := of_decide_eq_true (by first | (with_reducible assumption) | assumption)
                          obtain ⟨ad211, e211, hx211_0⟩ := Kd.at_int (Kd.R_reads' HO_4.out).2.2 x6_3 p211 q211
                          cases e211
                          replace p211 := eq_true p211
                          replace q211 := eq_true q211
                          go_wp2
                          go_meet
                          case rel => exact ⟨_, (true), (by first | rfl | (simp; done) | (simp [*]; done)), H', ⟨by have := HJ2.out; have := HJ7.out; have := HK3.out; first | omega | exact Nat.le_refl _⟩, ⟨by (with_reducible repeat (first | apply Kd.R_alloc | apply Kd.R_drewN | apply Kd.R_drew)); exact HO_4.out⟩, ⟨by repeat (first | (with_reducible first | exact HB.out | apply below_alloc | apply pw_below_drewN | apply below_drew1) | exact HB.out)⟩⟩
                        · rw [if_neg c21] at H
                          have c21b0 : decide ((rd t207 x6_3) < x5_3) = false := decide_eq_false c21
                          clear c21
                          by_cases c22 : x6_3 > 0
                          · rw [if_pos c22] at H
                            have c22b0 : decide (0 < x6_3) = true := decide_eq_true c22
                            clear c22
                            by_cases c23 : (rd t207 x6_3) = x5_3
                            · rw [if_pos c23] at H
                              have c23b0 : ((rd t207 x6_3) == x5_3) = true := beq_iff_eq.mpr c23
                              have c23b1 : ((rd t207 x6_3) != x5_3) = false := bne_eq_false_iff_eq.mpr c23
                              clear c23
                              have H' := Aside0.mk H
                              clear H
                              have p211 : 0 ≤ (x6_3 : Int) := of_decide_eq_true (by first | (with_reducible assumption) | assumption)
                              have q211 : x6_3 < (t207.length : Int) := of_decide_eq_true (by first | (with_reducible assumption) | assumption)
                              obtain ⟨ad211, e211, hx211_0⟩ := Kd.at_int (Kd.R_reads' HO_4.out).2.2 x6_3 p211 q211
                              cases e211
                              replace p211 := eq_true p211
                              replace q211 := eq_true q211
                              have p212 : 0 ≤ (x6_3 : Int) := of_decide_eq_true (by first | (with_reducible assumption) | assumption)
                              have q212 : x6_3 < (t207.length : Int) := of_decide_eq_true (by first | (with_reducible assumption) | assumption)
                              obtain ⟨ad212, e212, hx212_0⟩ := Kd.at_int (Kd.R_reads' HO_4.out).2.2 x6_3 p212 q212
                              obtain rfl : ad211 = ad212 := (by injection e212)
                              replace p212 := eq_true p212
                              replace q212 := eq_true q212
                              go_wp2
                              go_meet
                              case rel => exact ⟨_, (true), (by first | rfl | (simp; done) | (simp [*]; done)), H', ⟨by have := HJ2.out; have := HJ7.out; have := HK3.out; first | omega | exact Nat.le_refl _⟩, ⟨by (with_reducible repeat (first | apply Kd.R_alloc | apply Kd.R_drewN | apply Kd.R_drew)); exact HO_4.out⟩, ⟨by repeat (first | (with_reducible first | exact HB.out | apply below_alloc | apply pw_below_drewN | apply below_drew1) | exact HB.out)⟩⟩
                            · rw [if_neg c23] at H
                              have c23b0 : ((rd t207 x6_3) == x5_3) = false := beq_eq_false_iff_ne.mpr c23
                              have c23b1 : ((rd t207 x6_3) != x5_3) = true := bne_iff_ne.mpr c23
                              have H' := Aside0.mk H
                              clear H
                              have p211 : 0 ≤ (x6_3 : Int) := of_decide_eq_true (by first | (with_reducible assumption) | assumption)
                              have q211 : x6_3 < (t207.length : Int) := of_decide_eq_true (by first | (with_reducible assumption) | assumption)
                              obtain ⟨ad211, e211, hx211_0⟩ := Kd.at_int (Kd.R_reads' HO_4.out).2.2 x6_3 p211 q211
                              cases e211
                              replace p211 := eq_true p211
                              replace q211 := eq_true q211
                              have p212 : 0 ≤ (x6_3 : Int) := of_decide_eq_true (by first | (with_reducible assumption) | assumption)
                              have q212 : x6_3 < (t207.length : Int) := of_decide_eq_true (by first | (with_reducible assumption) | assumption)
                              obtain ⟨ad212, e212, hx212_0⟩ := Kd.at_int (Kd.R_reads' HO_4.out).2.2 x6_3 p212 q212
                              obtain rfl : ad211 = ad212 := (by injection e212)
                              replace p212 := eq_true p212
                              replace q212 := eq_true q212
                              have p213 : 0 ≤ (x6_3 : Int) := of_decide_eq_true (by first | (with_reducible assumption) | assumption)
                              have q213 : x6_3 < (t207.length : Int) := of_decide_eq_true (by first | (with_reducible assumption) | assumption)
                              obtain ⟨ad213, e213, hx213_0⟩ := Kd.at_int (Kd.R_reads' HO_4.out).2.2 x6_3 p213 q213
                              obtain rfl : ad211 = ad213 := (by injection e213)
                              replace p213 := eq_true p213
                              replace q213 := eq_true q213
                              go_wp2
                              go_meet
                              case rel => exact ⟨_, (decide ((rd t207 x6_3) > (l0.length : Int))), (by first | rfl | (simp; done) | (simp [*]; done)), H', ⟨by have := HJ2.out; have := HJ7.out; have := HK3.out; first | omega | exact Nat.le_refl _⟩, ⟨by (with_reducible repeat (first | apply Kd.R_alloc | apply Kd.R_drewN | apply Kd.R_drew)); exact HO_4.out⟩, ⟨by repeat (first | (with_reducible first | exact HB.out | apply below_alloc | apply pw_below_drewN | apply below_drew1) | exact HB.out)⟩⟩
                          · rw [if_neg c22] at H
                            have c22b0 : decide (0 < x6_3) = false := decide_eq_false c22
                            clear c22
                            have H' := Aside0.mk H
                            clear H
                            have p211 : 0 ≤ (x6_3 : Int) := of_decide_eq_true (by first | (with_reducible assumption) | assumption)
                            have q211 : x6_3 < (t207.length : Int) := of_decide_eq_true (by first | (with_reducible assumption) | assumption)
                            obtain ⟨ad211, e211, hx211_0⟩ := Kd.at_int (Kd.R_reads' HO_4.out).2.2 x6_3 p211 q211
                            cases e211
                            replace p211 := eq_true p211
                            replace q211 := eq_true q211
                            have p214 : 0 ≤ (x6_3 : Int) := of_decide_eq_true (by first | (with_reducible assumption) | assumption)
                            have q214 : x6_3 < (t207.length : Int) := of_decide_eq_true (by first | (with_reducible assumption) | assumption)
                            obtain ⟨ad214, e214, hx214_0⟩ := Kd.at_int (Kd.R_reads' HO_4.out).2.2 x6_3 p214 q214
                            obtain rfl : ad211 = ad214 := (by injection e214)
                            replace p214 := eq_true p214
                            replace q214 := eq_true q214
                            go_wp2
                            go_meet
                            case rel => exact ⟨_, (decide ((rd t207 x6_3) > (l0.length : Int))), (by first | rfl | (simp; done) | (simp [*]; done)), H', ⟨by have := HJ2.out; have := HJ7.out; have := HK3.out; first | omega | exact Nat.le_refl _⟩, ⟨by (with_reducible repeat (first | apply Kd.R_alloc | apply Kd.R_drewN | apply Kd.R_drew)); exact HO_4.out⟩, ⟨by repeat (first | (with_reducible first | exact HB.out | apply below_alloc | apply pw_below_drewN | apply below_drew1) | exact HB.out)⟩⟩
                      · rw [if_neg c20] at H
                        exact absurd H (by simp)
                    case rest =>
                      clear HC18
                      try clear c1
                      try clear c2
                      try clear p2
                      try clear q2
                      try clear hx2
                      try clear c5
                      try clear c6
                      try clear p6
                      try clear c10
                      try clear c10b0
                      try clear c10b1
                      try clear c10b2
                      try clear c12
                      try clear c13
                      try clear c13b0
                      try clear c14
                      try clear c14b0
                      try clear c16
                      try clear c17
                      try clear c17b0
                      try clear c20
                      try clear c20b0
                      try clear c21
                      try clear c21b0
                      try clear p21
                      try clear q21
                      try clear hx21
                      try clear c22
                      try clear c22b0
                      try clear c23
                      try clear c23b0
                      try clear c23b1
                      try clear hx210_0
                      try clear hx211_0
                      try clear hx212_0
                      try clear hx213_0
                      try clear hx214_0
                      try clear p2
                      try clear p210
                      try clear p211
                      try clear p212
                      try clear p213
                      try clear p214
                      try clear p6
                      try clear q2
                      try clear q210
                      try clear q211
                      try clear q212
                      try clear q213
                      try clear q214
                      obtain ⟨kq, x65_17, rfl, HA, HJ17, HO_4, HB⟩ := hcut
                      cases kq with
                      | zero => exact absurd HA.out (by simp [exegetelaw04_LinesEnds.j3])
                      | succ kj17 =>
                        have H := HA.out
                        clear HA
                        simp only [exegetelaw04_LinesEnds.j3] at H
                        by_cases c24 : x65_17 = true
                        · subst c24
                          have H1 : (some false) = some r := by rw [if_pos rfl] at H; exact H
                          clear H
                          have H := H1
                          clear H1
                          obtain rfl := Option.some.inj H
                          go_wp2
                          go_ret
                          exact ⟨by first | rfl | (simp [errW_none, errW_some] <;> rfl) | (simp [*, errW_none, errW_some] <;> rfl), by repeat (first | (with_reducible first | exact HB.out | apply below_alloc | apply pw_below_drewN | apply below_drew1) | exact HB.out)⟩
                        · replace c24 := Bool.eq_false_iff.mpr c24
                          subst c24
                          have H1 : (exegetelaw04_LinesEnds.l1 kj17 l0 t207 x6_3 x5_3) = some r := by rw [if_neg (show ¬ (false = true) by decide)] at H; exact H
                          clear H
                          have H := H1
                          clear H1
                          have H' := Aside0.mk H
                          clear H
                          go_wp2
                          go_loopg [7] kj17 (fun kq v7 w' => ∃ (x7_5 : Int), v7 = .int .i64 x7_5 ∧ Aside0 (exegetelaw04_LinesEnds.l1 kq l0 t207 x6_3 x7_5 = some r) ∧ Aside0 (kq ≤ kj17) ∧ Aside0 (Kd.R (Kd.int .i64) 3 w' w.heap.size (fun _ => True) (.slice Ao19 t207.length co19) t207) ∧ Aside0 (Below w.heap.size w w'))
                          case atStart => exact ⟨(x5_3), (by first | rfl | (simp; done) | (simp [*]; done)), H', ⟨Nat.le_refl _⟩, ⟨by (with_reducible repeat (first | apply Kd.R_alloc | apply Kd.R_drewN | apply Kd.R_drew)); exact HO_4.out⟩, ⟨by repeat (first | (with_reducible first | exact HB.out | apply below_alloc | apply pw_below_drewN | apply below_drew1) | exact HB.out)⟩⟩
                          case round =>
                            clear H'
                            try clear c1
                            try clear c2
                            try clear p2
                            try clear q2
                            try clear hx2
                            try clear c5
                            try clear c6
                            try clear p6
                            try clear c10
                            try clear c10b0
                            try clear c10b1
                            try clear c10b2
                            try clear c12
                            try clear c13
                            try clear c13b0
                            try clear c14
                            try clear c14b0
                            try clear c16
                            try clear c17
                            try clear c17b0
                            try clear c20
                            try clear c20b0
                            try clear c21
                            try clear c21b0
                            try clear p21
                            try clear q21
                            try clear hx21
                            try clear c22
                            try clear c22b0
                            try clear c23
                            try clear c23b0
                            try clear c23b1
                            try clear c24
                            try clear hx210_0
                            try clear hx211_0
                            try clear hx212_0
                            try clear hx213_0
                            try clear hx214_0
                            try clear p2
                            try clear p21
                            try clear p210
                            try clear p211
                            try clear p212
                            try clear p213
                            try clear p214
                            try clear p6
                            try clear q2
                            try clear q21
                            try clear q210
                            try clear q211
                            try clear q212
                            try clear q213
                            try clear q214
                            obtain ⟨x7_5, rfl, HA, HK5, HO_4, HB⟩ := hrel
                            cases gk with
                            | zero => exact absurd HA.out (by simp [exegetelaw04_LinesEnds.l1])
                            | succ k5 =>
                              have H := HA.out
                              clear HA
                              simp only [exegetelaw04_LinesEnds.l1] at H
                              by_cases c25 : 0 ≤ x6_3
                              · rw [if_pos c25] at H
                                have c25b0 : decide (0 ≤ x6_3) = true := decide_eq_true c25
                                clear c25
                                by_cases c26 : x6_3 < (t207.length : Int)
                                · rw [if_pos c26] at H
                                  have c26b0 : decide (x6_3 < (t207.length : Int)) = true := decide_eq_true c26
                                  clear c26
                                  by_cases c27 : x7_5 < (rd t207 x6_3)
                                  · rw [if_pos c27] at H
                                    have c27b0 : decide (x7_5 < (rd t207 x6_3)) = true := decide_eq_true c27
                                    clear c27
                                    by_cases c28 : 0 ≤ x7_5
                                    · rw [if_pos c28] at H
                                      have c28b0 : decide (0 ≤ x7_5) = true := decide_eq_true c28
                                      clear c28
                                      by_cases c29 : x7_5 < (l0.length : Int)
                                      · rw [if_pos c29] at H
                                        have c29b0 : decide (x7_5 < (l0.length : Int)) = true := decide_eq_true c29
                                        clear c29
                                        by_cases c30 : (rd l0 x7_5) = 10
                                        · rw [if_pos c30] at H
                                          have c30b0 : ((rd l0 x7_5) == 10) = true := beq_iff_eq.mpr c30
                                          have c30b1 : ((rd l0 x7_5) != 10) = false := bne_eq_false_iff_eq.mpr c30
                                          clear c30
                                          by_cases c31 : x7_5 = (wrap64 ((rd t207 x6_3) - 1))
                                          · rw [if_pos c31] at H
                                            have c31b0 : (x7_5 == (wrap64 ((rd t207 x6_3) - 1))) = true := beq_iff_eq.mpr c31
                                            have c31b1 : (x7_5 != (wrap64 ((rd t207 x6_3) - 1))) = false := bne_eq_false_iff_eq.mpr c31
                                            clear c31
                                            have H' := Aside0.mk H
                                            clear H
                                            have p215 : 0 ≤ (x6_3 : Int) := of_decide_eq_true (by first | (with_reducible assumption) | assumption)
                                            have q215 : x6_3 < (t207.length : Int) := of_decide_eq_true (by first | (with_reducible assumption) | assumption)
                                            obtain ⟨ad215, e215, hx215_0⟩ := Kd.at_int (Kd.R_reads' HO_4.out).2.2 x6_3 p215 q215
                                            cases e215
                                            replace p215 := eq_true p215
                                            replace q215 := eq_true q215
                                            have p216 : 0 ≤ (x7_5 : Int) := of_decide_eq_true (by first | (with_reducible assumption) | assumption)
                                            have q216 : x7_5 < (l0.length : Int) := of_decide_eq_true (by first | (with_reducible assumption) | assumption)
                                            obtain ⟨ad216, e216, hx216_0⟩ := Kd.at_int HR0.out x7_5 p216 q216
                                            cases e216
                                            replace hx216_0 := (HB.out.cell (World.block_lt_of_cell? w _ hx216_0)).trans hx216_0
                                            replace p216 := eq_true p216
                                            replace q216 := eq_true q216
                                            have p217 : 0 ≤ (x6_3 : Int) := of_decide_eq_true (by first | (with_reducible assumption) | assumption)
                                            have q217 : x6_3 < (t207.length : Int) := of_decide_eq_true (by first | (with_reducible assumption) | assumption)
                                            obtain ⟨ad217, e217, hx217_0⟩ := Kd.at_int (Kd.R_reads' HO_4.out).2.2 x6_3 p217 q217
                                            obtain rfl : ad215 = ad217 := (by injection e217)
                                            replace p217 := eq_true p217
                                            replace q217 := eq_true q217
                                            go_wp2
                                            go_roundg k5
                                            case measure => have := HJ2.out; have := HJ7.out; have := HK3.out; have := HJ17.out; have := HK5.out; omega
                                            case rel => exact ⟨(wrap64 (x7_5 + 1)), (by first | rfl | (simp; done) | (simp [*]; done)), H', ⟨by have := HJ2.out; have := HJ7.out; have := HK3.out; have := HJ17.out; have := HK5.out; omega⟩, ⟨by (with_reducible repeat (first | apply Kd.R_alloc | apply Kd.R_drewN | apply Kd.R_drew)); exact HO_4.out⟩, ⟨by repeat (first | (with_reducible first | exact HB.out | apply below_alloc | apply pw_below_drewN | apply below_drew1) | exact HB.out)⟩⟩
                                          · rw [if_neg c31] at H
                                            have c31b0 : (x7_5 == (wrap64 ((rd t207 x6_3) - 1))) = false := beq_eq_false_iff_ne.mpr c31
                                            have c31b1 : (x7_5 != (wrap64 ((rd t207 x6_3) - 1))) = true := bne_iff_ne.mpr c31
                                            obtain rfl := Option.some.inj H
                                            have p215 : 0 ≤ (x6_3 : Int) := of_decide_eq_true (by first | (with_reducible assumption) | assumption)
                                            have q215 : x6_3 < (t207.length : Int) := of_decide_eq_true (by first | (with_reducible assumption) | assumption)
                                            obtain ⟨ad215, e215, hx215_0⟩ := Kd.at_int (Kd.R_reads' HO_4.out).2.2 x6_3 p215 q215
                                            cases e215
                                            replace p215 := eq_true p215
                                            replace q215 := eq_true q215
                                            have p216 : 0 ≤ (x7_5 : Int) := of_decide_eq_true (by first | (with_reducible assumption) | assumption)
                                            have q216 : x7_5 < (l0.length : Int) := of_decide_eq_true (by first | (with_reducible assumption) | assumption)
                                            obtain ⟨ad216, e216, hx216_0⟩ := Kd.at_int HR0.out x7_5 p216 q216
                                            cases e216
                                            replace hx216_0 := (HB.out.cell (World.block_lt_of_cell? w _ hx216_0)).trans hx216_0
                                            replace p216 := eq_true p216
                                            replace q216 := eq_true q216
                                            have p217 : 0 ≤ (x6_3 : Int) := of_decide_eq_true (by first | (with_reducible assumption) | assumption)
                                            have q217 : x6_3 < (t207.length : Int) := of_decide_eq_true (by first | (with_reducible assumption) | assumption)
                                            obtain ⟨ad217, e217, hx217_0⟩ := Kd.at_int (Kd.R_reads' HO_4.out).2.2 x6_3 p217 q217
                                            obtain rfl : ad215 = ad217 := (by injection e217)
                                            replace p217 := eq_true p217
                                            replace q217 := eq_true q217
                                            go_wp2
                                            go_ret
                                            exact ⟨by first | rfl | (simp [errW_none, errW_some] <;> rfl) | (simp [*, errW_none, errW_some] <;> rfl), by repeat (first | (with_reducible first | exact HB.out | apply below_alloc | apply pw_below_drewN | apply below_drew1) | exact HB.out)⟩
                                        · rw [if_neg c30] at H
                                          have c30b0 : ((rd l0 x7_5) == 10) = false := beq_eq_false_iff_ne.mpr c30
                                          have c30b1 : ((rd l0 x7_5) != 10) = true := bne_iff_ne.mpr c30
                                          have H' := Aside0.mk H
                                          clear H
                                          have p215 : 0 ≤ (x6_3 : Int) := of_decide_eq_true (by first | (with_reducible assumption) | assumption)
                                          have q215 : x6_3 < (t207.length : Int) := of_decide_eq_true (by first | (with_reducible assumption) | assumption)
                                          obtain ⟨ad215, e215, hx215_0⟩ := Kd.at_int (Kd.R_reads' HO_4.out).2.2 x6_3 p215 q215
                                          cases e215
                                          replace p215 := eq_true p215
                                          replace q215 := eq_true q215
                                          have p216 : 0 ≤ (x7_5 : Int) := of_decide_eq_true (by first | (with_reducible assumption) | assumption)
                                          have q216 : x7_5 < (l0.length : Int) := of_decide_eq_true (by first | (with_reducible assumption) | assumption)
                                          obtain ⟨ad216, e216, hx216_0⟩ := Kd.at_int HR0.out x7_5 p216 q216
                                          cases e216
                                          replace hx216_0 := (HB.out.cell (World.block_lt_of_cell? w _ hx216_0)).trans hx216_0
                                          replace p216 := eq_true p216
                                          replace q216 := eq_true q216
                                          go_wp2
                                          go_roundg k5
                                          case measure => have := HJ2.out; have := HJ7.out; have := HK3.out; have := HJ17.out; have := HK5.out; omega
                                          case rel => exact ⟨(wrap64 (x7_5 + 1)), (by first | rfl | (simp; done) | (simp [*]; done)), H', ⟨by have := HJ2.out; have := HJ7.out; have := HK3.out; have := HJ17.out; have := HK5.out; omega⟩, ⟨by (with_reducible repeat (first | apply Kd.R_alloc | apply Kd.R_drewN | apply Kd.R_drew)); exact HO_4.out⟩, ⟨by repeat (first | (with_reducible first | exact HB.out | apply below_alloc | apply pw_below_drewN | apply below_drew1) | exact HB.out)⟩⟩
                                      · rw [if_neg c29] at H
                                        exact absurd H (by simp)
                                    · rw [if_neg c28] at H
                                      exact absurd H (by simp)
                                  · rw [if_neg c27] at H
                                    have c27b0 : decide (x7_5 < (rd t207 x6_3)) = false := decide_eq_false c27
                                    clear c27
                                    by_cases c32 : x6_3 < (wrap64 ((t207.length : Int) - 1))
                                    · rw [if_pos c32] at H
                                      have c32b0 : decide (x6_3 < (wrap64 ((t207.length : Int) - 1))) = true := decide_eq_true c32
                                      clear c32
                                      by_cases c33 : (rd t207 x6_3) = 0
                                      · rw [if_pos c33] at H
                                        have c33b0 : ((rd t207 x6_3) == 0) = true := beq_iff_eq.mpr c33
                                        have c33b1 : ((rd t207 x6_3) != 0) = false := bne_eq_false_iff_eq.mpr c33
                                        clear c33
                                        obtain rfl := Option.some.inj H
                                        have p215 : 0 ≤ (x6_3 : Int) := of_decide_eq_true (by first | (with_reducible assumption) | assumption)
                                        have q215 : x6_3 < (t207.length : Int) := of_decide_eq_true (by first | (with_reducible assumption) | assumption)
                                        obtain ⟨ad215, e215, hx215_0⟩ := Kd.at_int (Kd.R_reads' HO_4.out).2.2 x6_3 p215 q215
                                        cases e215
                                        replace p215 := eq_true p215
                                        replace q215 := eq_true q215
                                        have p218 : 0 ≤ (x6_3 : Int) := of_decide_eq_true (by first | (with_reducible assumption) | assumption)
                                        have q218 : x6_3 < (t207.length : Int) := of_decide_eq_true (by first | (with_reducible assumption) | assumption)
                                        obtain ⟨ad218, e218, hx218_0⟩ := Kd.at_int (Kd.R_reads' HO_4.out).2.2 x6_3 p218 q218
                                        obtain rfl : ad215 = ad218 := (by injection e218)
                                        replace p218 := eq_true p218
                                        replace q218 := eq_true q218
                                        go_wp2
                                        go_ret
                                        exact ⟨by first | rfl | (simp [errW_none, errW_some] <;> rfl) | (simp [*, errW_none, errW_some] <;> rfl), by repeat (first | (with_reducible first | exact HB.out | apply below_alloc | apply pw_below_drewN | apply below_drew1) | exact HB.out)⟩
                                      · rw [if_neg c33] at H
                                        have c33b0 : ((rd t207 x6_3) == 0) = false := beq_eq_false_iff_ne.mpr c33
                                        have c33b1 : ((rd t207 x6_3) != 0) = true := bne_iff_ne.mpr c33
                                        obtain ⟨ji34, hji34⟩ : ∃ j_ : Int, (wrap64 ((rd t207 x6_3) - 1)) = j_ := ⟨_, rfl⟩
                                        replace H : (if 0 ≤ (ji34) then (if (ji34) < (l0.length : Int) then (if (rd l0 (ji34)) = 10 then (exegetelaw04_LinesEnds.l0 k5 l0 t207 (rd t207 x6_3) (wrap64 (x6_3 + 1))) else (some false)) else (none)) else (none)) = some r := by first | (rw [hji34] at H; exact H) | (simp only [hji34] at H ⊢; exact H)
                                        have hji34w : (IntKind.i64.wrap ((rd t207 x6_3) - 1)) = ji34 := (i64_w _).trans hji34
                                        by_cases c35 : 0 ≤ (ji34)
                                        · rw [if_pos c35] at H
                                          have c35b0 : decide (0 ≤ (ji34)) = true := decide_eq_true c35
                                          clear c35
                                          by_cases c36 : (ji34) < (l0.length : Int)
                                          · rw [if_pos c36] at H
                                            have c36b0 : decide ((ji34) < (l0.length : Int)) = true := decide_eq_true c36
                                            clear c36
                                            by_cases c37 : (rd l0 (ji34)) = 10
                                            · rw [if_pos c37] at H
                                              have c37b0 : ((rd l0 (ji34)) == 10) = true := beq_iff_eq.mpr c37
                                              have c37b1 : ((rd l0 (ji34)) != 10) = false := bne_eq_false_iff_eq.mpr c37
                                              clear c37
                                              have H' := Aside0.mk H
                                              clear H
                                              have p215 : 0 ≤ (x6_3 : Int) := of_decide_eq_true (by first | (with_reducible assumption) | assumption)
                                              have q215 : x6_3 < (t207.length : Int) := of_decide_eq_true (by first | (with_reducible assumption) | assumption)
                                              obtain ⟨ad215, e215, hx215_0⟩ := Kd.at_int (Kd.R_reads' HO_4.out).2.2 x6_3 p215 q215
                                              cases e215
                                              replace p215 := eq_true p215
                                              replace q215 := eq_true q215
                                              have p218 : 0 ≤ (x6_3 : Int) := of_decide_eq_true (by first | (with_reducible assumption) | assumption)
                                              have q218 : x6_3 < (t207.length : Int) := of_decide_eq_true (by first | (with_reducible assumption) | assumption)
                                              obtain ⟨ad218, e218, hx218_0⟩ := Kd.at_int (Kd.R_reads' HO_4.out).2.2 x6_3 p218 q218
                                              obtain rfl : ad215 = ad218 := (by injection e218)
                                              replace p218 := eq_true p218
                                              replace q218 := eq_true q218
                                              have p219 : 0 ≤ (x6_3 : Int) := of_decide_eq_true (by first | (with_reducible assumption) | assumption)
                                              have q219 : x6_3 < (t207.length : Int) := of_decide_eq_true (by first | (with_reducible assumption) | assumption)
                                              obtain ⟨ad219, e219, hx219_0⟩ := Kd.at_int (Kd.R_reads' HO_4.out).2.2 x6_3 p219 q219
                                              obtain rfl : ad215 = ad219 := (by injection e219)
                                              replace p219 := eq_true p219
                                              replace q219 := eq_true q219
                                              have p220 : 0 ≤ ((ji34) : Int) := of_decide_eq_true (by first | (with_reducible assumption) | assumption)
                                              have q220 : (ji34) < (l0.length : Int) := of_decide_eq_true (by first | (with_reducible assumption) | assumption)
                                              obtain ⟨ad220, e220, hx220_0⟩ := Kd.at_int HR0.out (ji34) p220 q220
                                              cases e220
                                              replace hx220_0 := (HB.out.cell (World.block_lt_of_cell? w _ hx220_0)).trans hx220_0
                                              replace p220 := eq_true p220
                                              replace q220 := eq_true q220
                                              have p221 : 0 ≤ (x6_3 : Int) := of_decide_eq_true (by first | (with_reducible assumption) | assumption)
                                              have q221 : x6_3 < (t207.length : Int) := of_decide_eq_true (by first | (with_reducible assumption) | assumption)
                                              obtain ⟨ad221, e221, hx221_0⟩ := Kd.at_int (Kd.R_reads' HO_4.out).2.2 x6_3 p221 q221
                                              obtain rfl : ad215 = ad221 := (by injection e221)
                                              replace p221 := eq_true p221
                                              replace q221 := eq_true q221
                                              go_wp2
                                              go_roundg k5
                                              case measure => have := HJ2.out; have := HJ7.out; have := HK3.out; have := HJ17.out; have := HK5.out; omega
                                              case rel => exact ⟨(rd t207 x6_3), (wrap64 (x6_3 + 1)), (by first | rfl | (simp; done) | (simp [*]; done)), (by first | rfl | (simp; done) | (simp [*]; done)), H', ⟨by have := HJ2.out; have := HJ7.out; have := HK3.out; have := HJ17.out; have := HK5.out; omega⟩, ⟨by (with_reducible repeat (first | apply Kd.R_alloc | apply Kd.R_drewN | apply Kd.R_drew)); exact HO_4.out⟩, ⟨by repeat (first | (with_reducible first | exact HB.out | apply below_alloc | apply pw_below_drewN | apply below_drew1) | exact HB.out)⟩⟩
                                            · rw [if_neg c37] at H
                                              have c37b0 : ((rd l0 (ji34)) == 10) = false := beq_eq_false_iff_ne.mpr c37
                                              have c37b1 : ((rd l0 (ji34)) != 10) = true := bne_iff_ne.mpr c37
                                              obtain rfl := Option.some.inj H
                                              have p215 : 0 ≤ (x6_3 : Int) := of_decide_eq_true (by first | (with_reducible assumption) | assumption)
                                              have q215 : x6_3 < (t207.length : Int) := of_decide_eq_true (by first | (with_reducible assumption) | assumption)
                                              obtain ⟨ad215, e215, hx215_0⟩ := Kd.at_int (Kd.R_reads' HO_4.out).2.2 x6_3 p215 q215
                                              cases e215
                                              replace p215 := eq_true p215
                                              replace q215 := eq_true q215
                                              have p218 : 0 ≤ (x6_3 : Int) := of_decide_eq_true (by first | (with_reducible assumption) | assumption)
                                              have q218 : x6_3 < (t207.length : Int) := of_decide_eq_true (by first | (with_reducible assumption) | assumption)
                                              obtain ⟨ad218, e218, hx218_0⟩ := Kd.at_int (Kd.R_reads' HO_4.out).2.2 x6_3 p218 q218
                                              obtain rfl : ad215 = ad218 := (by injection e218)
                                              replace p218 := eq_true p218
                                              replace q218 := eq_true q218
                                              have p219 : 0 ≤ (x6_3 : Int) := of_decide_eq_true (by first | (with_reducible assumption) | assumption)
                                              have q219 : x6_3 < (t207.length : Int) := of_decide_eq_true (by first | (with_reducible assumption) | assumption)
                                              obtain ⟨ad219, e219, hx219_0⟩ := Kd.at_int (Kd.R_reads' HO_4.out).2.2 x6_3 p219 q219
                                              obtain rfl : ad215 = ad219 := (by injection e219)
                                              replace p219 := eq_true p219
                                              replace q219 := eq_true q219
                                              have p220 : 0 ≤ ((ji34) : Int) := of_decide_eq_true (by first | (with_reducible assumption) | assumption)
                                              have q220 : (ji34) < (l0.length : Int) := of_decide_eq_true (by first | (with_reducible assumption) | assumption)
                                              obtain ⟨ad220, e220, hx220_0⟩ := Kd.at_int HR0.out (ji34) p220 q220
                                              cases e220
                                              replace hx220_0 := (HB.out.cell (World.block_lt_of_cell? w _ hx220_0)).trans hx220_0
                                              replace p220 := eq_true p220
                                              replace q220 := eq_true q220
                                              go_wp2
                                              go_ret
                                              exact ⟨by first | rfl | (simp [errW_none, errW_some] <;> rfl) | (simp only [← hji34]; first | rfl | (simp [errW_none, errW_some] <;> rfl)) | (simp [*, errW_none, errW_some] <;> rfl), by repeat (first | (with_reducible first | exact HB.out | apply below_alloc | apply pw_below_drewN | apply below_drew1) | exact HB.out)⟩
                                          · rw [if_neg c36] at H
                                            exact absurd H (by simp)
                                        · rw [if_neg c35] at H
                                          exact absurd H (by simp)
                                    · rw [if_neg c32] at H
                                      have c32b0 : decide (x6_3 < (wrap64 ((t207.length : Int) - 1))) = false := decide_eq_false c32
                                      clear c32
                                      have H' := Aside0.mk H
                                      clear H
                                      have p215 : 0 ≤ (x6_3 : Int) := of_decide_eq_true (by first | (with_reducible assumption) | assumption)
                                      have q215 : x6_3 < (t207.length : Int) := of_decide_eq_true (by first | (with_reducible assumption) | assumption)
                                      obtain ⟨ad215, e215, hx215_0⟩ := Kd.at_int (Kd.R_reads' HO_4.out).2.2 x6_3 p215 q215
                                      cases e215
                                      replace p215 := eq_true p215
                                      replace q215 := eq_true q215
                                      have p222 : 0 ≤ (x6_3 : Int) := of_decide_eq_true (by first | (with_reducible assumption) | assumption)
                                      have q222 : x6_3 < (t207.length : Int) := of_decide_eq_true (by first | (with_reducible assumption) | assumption)
                                      obtain ⟨ad222, e222, hx222_0⟩ := Kd.at_int (Kd.R_reads' HO_4.out).2.2 x6_3 p222 q222
                                      obtain rfl : ad215 = ad222 := (by injection e222)
                                      replace p222 := eq_true p222
                                      replace q222 := eq_true q222
                                      go_wp2
                                      go_roundg k5
                                      case measure => have := HJ2.out; have := HJ7.out; have := HK3.out; have := HJ17.out; have := HK5.out; omega
                                      case rel => exact ⟨(rd t207 x6_3), (wrap64 (x6_3 + 1)), (by first | rfl | (simp; done) | (simp [*]; done)), (by first | rfl | (simp; done) | (simp [*]; done)), H', ⟨by have := HJ2.out; have := HJ7.out; have := HK3.out; have := HJ17.out; have := HK5.out; omega⟩, ⟨by (with_reducible repeat (first | apply Kd.R_alloc | apply Kd.R_drewN | apply Kd.R_drew)); exact HO_4.out⟩, ⟨by repeat (first | (with_reducible first | exact HB.out | apply below_alloc | apply pw_below_drewN | apply below_drew1) | exact HB.out)⟩⟩
                                · rw [if_neg c26] at H
                                  exact absurd H (by simp)
                              · rw [if_neg c25] at H
                                exact absurd H (by simp)
                  · rw [if_neg c17] at H
                    have c17b0 : decide (x6_3 < (t207.length : Int)) = false := decide_eq_false c17
                    clear c17
                    obtain rfl := Option.some.inj H
                    obtain ⟨Ao38, co38, eo38⟩ := Kd.R_slice HO_4.out
                    subst eo38
                    go_wp2
                    go_ret
                    exact ⟨by first | rfl | (simp [errW_none, errW_some] <;> rfl) | (simp [*, errW_none, errW_some] <;> rfl), by repeat (first | (with_reducible first | exact HB.out | apply below_alloc | apply pw_below_drewN | apply below_drew1) | exact HB.out)⟩

/-- THE ONE PURE STATEMENT of exegetelaw04_LinesEnds: yours. -/
def exegetelaw04_LinesEnds.Pure : Prop := ∀ (l0 : List Int), l0.length ≤ maxLen → l0.length * 1 ≤ 140737488351232 → (∀ x ∈ l0, (Lit.int .u8 x).wf = true) → ∃ k, exegetelaw04_LinesEnds.f k l0 = some true
theorem exegetelaw04_LinesEnds.walk (P : exegetelaw04_LinesEnds.Pure) (a0 : Option Addr) (len0 cap0 : Nat) (z0 : List Int) (w : World) (w0 : (a0 = none ∧ len0 = 0 ∧ cap0 = 0 ∧ z0 = []) ∨ ∃ x, a0 = some x ∧ len0 ≤ cap0 ∧ cap0 ≤ maxLen ∧ z0.length = cap0 ∧ (∀ i, i < z0.length → w.cell? (x.add i) = some (.int .u8 (z0.getD i 0))) ∧ ∀ n ∈ z0, (Lit.int .u8 n).wf = true) (y0 : len0 * 1 ≤ 140737488351232) :
    Calls Tryd.prog 6 #[.slice a0 len0 cap0] w fun e w' => e = .returned (.bool true) ∧ Below w.heap.size w w' := by
  obtain ⟨l0, rfl, hr0, hm0, hw0, hc0⟩ := ReadsInt.ofRowC w0
  obtain ⟨k, h⟩ := P l0 hm0 y0 hw0
  refine (exegetelaw04_LinesEnds.calls k _ _ l0 true w (Kd.C_of_reads (d := (0 : Int)) (h1 := fun _ => rfl) hr0) hc0 h).mono ?_
  rintro e w' ⟨rfl, hd⟩
  exact ⟨rfl, hd⟩

end Go.Proofs.YtahabdogohdjeaaDoor.All
