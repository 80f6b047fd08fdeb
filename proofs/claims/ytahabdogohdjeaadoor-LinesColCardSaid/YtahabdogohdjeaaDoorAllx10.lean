/- Contracts of functions of the program, each for every input, printed for this claim by a program out of the translation, some written by hand. -/
import Derived.Test.YtahabdogohdjeaaDoorAllx0
import Derived.Test.YtahabdogohdjeaaDoorAllx1
import Derived.Test.YtahabdogohdjeaaDoorAllx3
import Derived.Test.YtahabdogohdjeaaDoorAllx4
namespace Go.Proofs.YtahabdogohdjeaaDoor.All
open Go.RowKit Go.Proofs.YtahabdogohdjeaaDoorW.PrintWords Go.Proofs.YtahabdogohdjeaaDoorW.PrintLast Go.Proofs.YtahabdogohdjeaaDoorW.PrintMore
attribute [local go_sem] max2_int min2_int max_two min_two max_three min_three max_four min_four   -- for this text's walks alone
set_option linter.unusedVariables false
set_option linter.unusedSimpArgs false

/-! ### exegetelaw04_LinesCol: function 4 -/
mutual
def exegetelaw04_LinesCol.j0 : Nat → List Int → Int → Int → Bool → Bool → Option (Bool)
  | 0, _, _, _, _, _ => none
  | k + 1, x0, x1, x2, x7, x35 => if x35 = true then (some x7) else (exegetelaw04_LinesCol.l0 k x0 x1 x2 0 0)
def exegetelaw04_LinesCol.l0 : Nat → List Int → Int → Int → Int → Int → Option (Bool)
  | 0, _, _, _, _, _ => none
  | k + 1, x0, x1, x2, x8, x9 => if x9 < x1 then (exegetelaw04_LinesCol.j2 k x0 x1 x2 x8 x9 (decide (x8 < (x0.length : Int)))) else (exegetelaw04_LinesCol.j2 k x0 x1 x2 x8 x9 false)
def exegetelaw04_LinesCol.j2 : Nat → List Int → Int → Int → Int → Int → Bool → Option (Bool)
  | 0, _, _, _, _, _, _ => none
  | k + 1, x0, x1, x2, x8, x9, x45 => if x45 = true then ((utf_Next.f x0 x8).bind fun bt194 => (if bt194.2 < 1 then (some false) else (exegetelaw04_LinesCol.l0 k x0 x1 x2 (wrap64 (x8 + bt194.2)) (wrap64 (x9 + 1))))) else (if x8 ≥ (x0.length : Int) then (some (x8 == (x0.length : Int))) else ((lines_Col.f k x0 x8 x2).bind fun t196 => ((utf_Next.f x0 x8).bind fun bt197 => ((lines_Col.f k x0 (wrap64 (x8 + bt197.2)) x2).bind fun t199 => ((lines_Begin.f k x0 x8).bind fun t200 => (if t200 = x8 then (exegetelaw04_LinesCol.j3 k x0 x2 x8 t196 t199 (t196 != 0)) else (exegetelaw04_LinesCol.j3 k x0 x2 x8 t196 t199 false)))))))
def exegetelaw04_LinesCol.j3 : Nat → List Int → Int → Int → Int → Int → Bool → Option (Bool)
  | 0, _, _, _, _, _, _ => none
  | k + 1, x0, x2, x8, x12, x15, x91 => if x91 = true then (some false) else (if 0 ≤ x8 then (if x8 < (x0.length : Int) then (if (rd x0 x8) = 10 then (some (x15 == 0)) else (if (rd x0 x8) = 9 then (if x2 = 0 then (none) else (if (Int.tmod x15 x2) = 0 then (if x15 > x12 then (some (decide (x15 ≤ (wrap64 (x12 + x2))))) else (some false)) else (some false))) else (some (x15 == (wrap64 (x12 + 1)))))) else (none)) else (none))
end
def exegetelaw04_LinesCol.f (k : Nat) (l0 : List Int) (a1 : Int) (a2 : Int) : Option (Bool) := (exegetelaw04_awake.f k).bind fun t193 => (if t193 = true then (if (l0.length : Int) > 300 then (exegetelaw04_LinesCol.j0 k l0 a1 a2 t193 true) else (if a1 < 0 then (exegetelaw04_LinesCol.j0 k l0 a1 a2 t193 true) else (if a2 < 1 then (exegetelaw04_LinesCol.j0 k l0 a1 a2 t193 true) else (exegetelaw04_LinesCol.j0 k l0 a1 a2 t193 (decide (a2 > 16)))))) else (exegetelaw04_LinesCol.j0 k l0 a1 a2 t193 true))
theorem exegetelaw04_LinesCol.mono_l : ∀ k, (∀ y0 y1 y2 y3 y4, LeO (exegetelaw04_LinesCol.j0 k y0 y1 y2 y3 y4) (exegetelaw04_LinesCol.j0 (k + 1) y0 y1 y2 y3 y4)) ∧ (∀ y0 y1 y2 y3 y4, LeO (exegetelaw04_LinesCol.l0 k y0 y1 y2 y3 y4) (exegetelaw04_LinesCol.l0 (k + 1) y0 y1 y2 y3 y4)) ∧ (∀ y0 y1 y2 y3 y4 y5, LeO (exegetelaw04_LinesCol.j2 k y0 y1 y2 y3 y4 y5) (exegetelaw04_LinesCol.j2 (k + 1) y0 y1 y2 y3 y4 y5)) ∧ (∀ y0 y1 y2 y3 y4 y5, LeO (exegetelaw04_LinesCol.j3 k y0 y1 y2 y3 y4 y5) (exegetelaw04_LinesCol.j3 (k + 1) y0 y1 y2 y3 y4 y5))
  | 0 => ⟨fun _ _ _ _ _ r h => by simp [exegetelaw04_LinesCol.j0] at h, fun _ _ _ _ _ r h => by simp [exegetelaw04_LinesCol.l0] at h, fun _ _ _ _ _ _ r h => by simp [exegetelaw04_LinesCol.j2] at h, fun _ _ _ _ _ _ r h => by simp [exegetelaw04_LinesCol.j3] at h⟩
  | k + 1 => by
    obtain ⟨ih0, ih1, ih2, ih3⟩ := exegetelaw04_LinesCol.mono_l k
    refine ⟨?_, ?_, ?_, ?_⟩
    · intro y0 y1 y2 y3 y4
      unfold exegetelaw04_LinesCol.j0
      repeat' first
      | (with_reducible exact ih0 _ _ _ _ _)
      | (with_reducible exact ih1 _ _ _ _ _)
      | (with_reducible exact ih2 _ _ _ _ _ _)
      | (with_reducible exact ih3 _ _ _ _ _ _)
      | (with_reducible exact exegetelaw04_awake.mono _)
      | (with_reducible exact lines_Begin.mono _ _ _)
      | (with_reducible exact lines_Col.mono _ _ _ _)
      | (with_reducible exact LeO.refl _)
      | (with_reducible exact LeO.none _)
      | (with_reducible refine LeO.ite ?_ ?_)
      | (with_reducible refine LeO.bind ?_ (fun _ => ?_))
      | exact ih0 _ _ _ _ _
      | exact ih1 _ _ _ _ _
      | exact ih2 _ _ _ _ _ _
      | exact ih3 _ _ _ _ _ _
      | exact exegetelaw04_awake.mono _
      | exact lines_Begin.mono _ _ _
      | exact lines_Col.mono _ _ _ _
      | exact LeO.none _
      | refine LeO.ite ?_ ?_
      | refine LeO.bind ?_ (fun _ => ?_)
    · intro y0 y1 y2 y3 y4
      unfold exegetelaw04_LinesCol.l0
      repeat' first
      | (with_reducible exact ih0 _ _ _ _ _)
      | (with_reducible exact ih1 _ _ _ _ _)
      | (with_reducible exact ih2 _ _ _ _ _ _)
      | (with_reducible exact ih3 _ _ _ _ _ _)
      | (with_reducible exact exegetelaw04_awake.mono _)
      | (with_reducible exact lines_Begin.mono _ _ _)
      | (with_reducible exact lines_Col.mono _ _ _ _)
      | (with_reducible exact LeO.refl _)
      | (with_reducible exact LeO.none _)
      | (with_reducible refine LeO.ite ?_ ?_)
      | (with_reducible refine LeO.bind ?_ (fun _ => ?_))
      | exact ih0 _ _ _ _ _
      | exact ih1 _ _ _ _ _
      | exact ih2 _ _ _ _ _ _
      | exact ih3 _ _ _ _ _ _
      | exact exegetelaw04_awake.mono _
      | exact lines_Begin.mono _ _ _
      | exact lines_Col.mono _ _ _ _
      | exact LeO.none _
      | refine LeO.ite ?_ ?_
      | refine LeO.bind ?_ (fun _ => ?_)
    · intro y0 y1 y2 y3 y4 y5
      unfold exegetelaw04_LinesCol.j2
      repeat' first
      | (with_reducible exact ih0 _ _ _ _ _)
      | (with_reducible exact ih1 _ _ _ _ _)
      | (with_reducible exact ih2 _ _ _ _ _ _)
      | (with_reducible exact ih3 _ _ _ _ _ _)
      | (with_reducible exact exegetelaw04_awake.mono _)
      | (with_reducible exact lines_Begin.mono _ _ _)
      | (with_reducible exact lines_Col.mono _ _ _ _)
      | (with_reducible exact LeO.refl _)
      | (with_reducible exact LeO.none _)
      | (with_reducible refine LeO.ite ?_ ?_)
      | (with_reducible refine LeO.bind ?_ (fun _ => ?_))
      | exact ih0 _ _ _ _ _
      | exact ih1 _ _ _ _ _
      | exact ih2 _ _ _ _ _ _
      | exact ih3 _ _ _ _ _ _
      | exact exegetelaw04_awake.mono _
      | exact lines_Begin.mono _ _ _
      | exact lines_Col.mono _ _ _ _
      | exact LeO.none _
      | refine LeO.ite ?_ ?_
      | refine LeO.bind ?_ (fun _ => ?_)
    · intro y0 y1 y2 y3 y4 y5
      unfold exegetelaw04_LinesCol.j3
      repeat' first
      | (with_reducible exact ih0 _ _ _ _ _)
      | (with_reducible exact ih1 _ _ _ _ _)
      | (with_reducible exact ih2 _ _ _ _ _ _)
      | (with_reducible exact ih3 _ _ _ _ _ _)
      | (with_reducible exact exegetelaw04_awake.mono _)
      | (with_reducible exact lines_Begin.mono _ _ _)
      | (with_reducible exact lines_Col.mono _ _ _ _)
      | (with_reducible exact LeO.refl _)
      | (with_reducible exact LeO.none _)
      | (with_reducible refine LeO.ite ?_ ?_)
      | (with_reducible refine LeO.bind ?_ (fun _ => ?_))
      | exact ih0 _ _ _ _ _
      | exact ih1 _ _ _ _ _
      | exact ih2 _ _ _ _ _ _
      | exact ih3 _ _ _ _ _ _
      | exact exegetelaw04_awake.mono _
      | exact lines_Begin.mono _ _ _
      | exact lines_Col.mono _ _ _ _
      | exact LeO.none _
      | refine LeO.ite ?_ ?_
      | refine LeO.bind ?_ (fun _ => ?_)
theorem exegetelaw04_LinesCol.mono : ∀ a0 a1 a2 k, LeO (exegetelaw04_LinesCol.f k a0 a1 a2) (exegetelaw04_LinesCol.f (k + 1) a0 a1 a2) := by
  intro a0 a1 a2 k
  obtain ⟨ih0, ih1, ih2, ih3⟩ := exegetelaw04_LinesCol.mono_l k
  unfold exegetelaw04_LinesCol.f
  repeat' first
      | (with_reducible exact ih0 _ _ _ _ _)
      | (with_reducible exact ih1 _ _ _ _ _)
      | (with_reducible exact ih2 _ _ _ _ _ _)
      | (with_reducible exact ih3 _ _ _ _ _ _)
      | (with_reducible exact exegetelaw04_awake.mono _)
      | (with_reducible exact lines_Begin.mono _ _ _)
      | (with_reducible exact lines_Col.mono _ _ _ _)
      | (with_reducible exact LeO.refl _)
      | (with_reducible exact LeO.none _)
      | (with_reducible refine LeO.ite ?_ ?_)
      | (with_reducible refine LeO.bind ?_ (fun _ => ?_))
      | exact ih0 _ _ _ _ _
      | exact ih1 _ _ _ _ _
      | exact ih2 _ _ _ _ _ _
      | exact ih3 _ _ _ _ _ _
      | exact exegetelaw04_awake.mono _
      | exact lines_Begin.mono _ _ _
      | exact lines_Col.mono _ _ _ _
      | exact LeO.none _
      | refine LeO.ite ?_ ?_
      | refine LeO.bind ?_ (fun _ => ?_)
set_option maxHeartbeats 8000000 in
set_option maxRecDepth 100000 in
theorem exegetelaw04_LinesCol.calls (k : Nat) (A0 : Option Addr) (c0 : Nat) (l0 : List Int) (a1 : Int) (a2 : Int) (r : Bool) (w : World) (hr0 : Kd.C (Kd.int .u8) w A0 l0.length l0) (hc0 : l0.length ≤ c0) (h : exegetelaw04_LinesCol.f k l0 a1 a2 = some r) :
    Calls Tryd.prog 4 #[.slice A0 l0.length c0, .int .i64 a1, .int .i64 a2] w fun e w' => e = .returned (.bool r) ∧ Below w.heap.size w w' := by
  have HR0 := Aside0.mk hr0
  have HC0 := Aside0.mk hc0
  clear hr0 hc0
  have HB := Aside0.mk (Below.refl w.heap.size w)
  have H : ((exegetelaw04_awake.f k).bind fun t193 => (if t193 = true then (if (l0.length : Int) > 300 then (exegetelaw04_LinesCol.j0 k l0 a1 a2 t193 true) else (if a1 < 0 then (exegetelaw04_LinesCol.j0 k l0 a1 a2 t193 true) else (if a2 < 1 then (exegetelaw04_LinesCol.j0 k l0 a1 a2 t193 true) else (exegetelaw04_LinesCol.j0 k l0 a1 a2 t193 (decide (a2 > 16)))))) else (exegetelaw04_LinesCol.j0 k l0 a1 a2 t193 true))) = some r := h
  clear h
  replace H := Option.bind_eq_some_iff.mp H
  obtain ⟨t193, A40, H⟩ := H
  replace H : (if t193 = true then (if (l0.length : Int) > 300 then (exegetelaw04_LinesCol.j0 k l0 a1 a2 t193 true) else (if a1 < 0 then (exegetelaw04_LinesCol.j0 k l0 a1 a2 t193 true) else (if a2 < 1 then (exegetelaw04_LinesCol.j0 k l0 a1 a2 t193 true) else (exegetelaw04_LinesCol.j0 k l0 a1 a2 t193 (decide (a2 > 16)))))) else (exegetelaw04_LinesCol.j0 k l0 a1 a2 t193 true)) = some r := H
  have A4 := Aside0.mk A40
  clear A40
  have HC5 := Aside0.mk H
  clear H
  go_enter Tryd.func4, Tryd.ntmps4
  go_upto_region 2 with (first | ((with_reducible refine gate_callee (f := 10) rfl ?_); refine goesL_ (some 16) rfl rfl Tryd.func10 (by kernel_rfl) rfl #[] rfl (by (try simp only [List.map_toArray, List.map_cons, List.map_nil]); first | done | rfl | (simp only [List.length_drop, List.length_take]; rfl)) ?_; (with_reducible refine (exegetelaw04_awake.calls k  t193 _ A4.out).mono ?_); rintro e w6 ⟨rfl, hb⟩; refine ⟨_, rfl, ?_⟩; have n0_ := Aside0.mk (below_step (by repeat (first | (with_reducible first | exact HB.out | apply below_alloc | apply pw_below_drewN | apply below_drew1) | exact HB.out)) hb); clear HB; have HB := n0_; clear n0_; (try clear hb); (try clear hb2); (try clear hk); (try clear hi)))
  (try simp only [Act.put, List.setIfInBounds_toArray, List.set_cons_zero, List.set_cons_succ])
  go_cut [35] (fun v35 wc => ∃ (kq : Nat) (x35_4 : Bool), v35 = .bool x35_4 ∧ Aside0 (exegetelaw04_LinesCol.j0 kq l0 a1 a2 t193 x35_4 = some r) ∧ Aside0 (kq ≤ k) ∧ Aside0 (Below w.heap.size w wc))
  case first =>
    have H := HC5.out
    clear HC5
    by_cases c7 : t193 = true
    · subst c7
      have H1 : (if (l0.length : Int) > 300 then (exegetelaw04_LinesCol.j0 k l0 a1 a2 true true) else (if a1 < 0 then (exegetelaw04_LinesCol.j0 k l0 a1 a2 true true) else (if a2 < 1 then (exegetelaw04_LinesCol.j0 k l0 a1 a2 true true) else (exegetelaw04_LinesCol.j0 k l0 a1 a2 true (decide (a2 > 16)))))) = some r := by rw [if_pos rfl] at H; exact H
      clear H
      have H := H1
      clear H1
      by_cases c8 : (l0.length : Int) > 300
      · rw [if_pos c8] at H
        have c8b0 : decide (300 < (l0.length : Int)) = true := decide_eq_true c8
        have c8b1 : decide (300 < l0.length) = true := decide_eq_true (by omega)
        clear c8
        (first | rw [c8b0] | (simp only [i64_w, i32_w]; rw [c8b0]) | skip)
        have H' := Aside0.mk H
        clear H
        go_wp2
        go_meet
        case rel => exact ⟨_, (true), (by first | rfl | (simp; done) | (simp [*]; done)), H', ⟨by first | omega | exact Nat.le_refl _⟩, ⟨by repeat (first | (with_reducible first | exact HB.out | apply below_alloc | apply pw_below_drewN | apply below_drew1) | exact HB.out)⟩⟩
      · rw [if_neg c8] at H
        have c8b0 : decide (300 < (l0.length : Int)) = false := decide_eq_false c8
        have c8b1 : decide (300 < l0.length) = false := decide_eq_false (by omega)
        clear c8
        (first | rw [c8b0] | (simp only [i64_w, i32_w]; rw [c8b0]) | skip)
        by_cases c9 : a1 < 0
        · rw [if_pos c9] at H
          have c9b0 : decide (a1 < 0) = true := decide_eq_true c9
          clear c9
          have H' := Aside0.mk H
          clear H
          go_wp2
          go_meet
          case rel => exact ⟨_, (true), (by first | rfl | (simp; done) | (simp [*]; done)), H', ⟨by first | omega | exact Nat.le_refl _⟩, ⟨by repeat (first | (with_reducible first | exact HB.out | apply below_alloc | apply pw_below_drewN | apply below_drew1) | exact HB.out)⟩⟩
        · rw [if_neg c9] at H
          have c9b0 : decide (a1 < 0) = false := decide_eq_false c9
          clear c9
          by_cases c10 : a2 < 1
          · rw [if_pos c10] at H
            have c10b0 : decide (a2 < 1) = true := decide_eq_true c10
            clear c10
            have H' := Aside0.mk H
            clear H
            go_wp2
            go_meet
            case rel => exact ⟨_, (true), (by first | rfl | (simp; done) | (simp [*]; done)), H', ⟨by first | omega | exact Nat.le_refl _⟩, ⟨by repeat (first | (with_reducible first | exact HB.out | apply below_alloc | apply pw_below_drewN | apply below_drew1) | exact HB.out)⟩⟩
          · rw [if_neg c10] at H
            have c10b0 : decide (a2 < 1) = false := decide_eq_false c10
            clear c10
            have H' := Aside0.mk H
            clear H
            go_wp2
            go_meet
            case rel => exact ⟨_, (decide (a2 > 16)), (by first | rfl | (simp; done) | (simp [*]; done)), H', ⟨by first | omega | exact Nat.le_refl _⟩, ⟨by repeat (first | (with_reducible first | exact HB.out | apply below_alloc | apply pw_below_drewN | apply below_drew1) | exact HB.out)⟩⟩
    · replace c7 := Bool.eq_false_iff.mpr c7
      subst c7
      have H1 : (exegetelaw04_LinesCol.j0 k l0 a1 a2 false true) = some r := by rw [if_neg (show ¬ (false = true) by decide)] at H; exact H
      clear H
      have H := H1
      clear H1
      have H' := Aside0.mk H
      clear H
      go_wp2
      go_meet
      case rel => exact ⟨_, (true), (by first | rfl | (simp; done) | (simp [*]; done)), H', ⟨by first | omega | exact Nat.le_refl _⟩, ⟨by repeat (first | (with_reducible first | exact HB.out | apply below_alloc | apply pw_below_drewN | apply below_drew1) | exact HB.out)⟩⟩
  case rest =>
    clear HC5
    try clear c1
    try clear p2
    try clear c4
    try clear c7
    try clear c8
    try clear c8b0
    try clear c8b1
    try clear c9
    try clear c9b0
    try clear c10
    try clear c10b0
    obtain ⟨kq, x35_4, rfl, HA, HJ4, HB⟩ := hcut
    cases kq with
    | zero => exact absurd HA.out (by simp [exegetelaw04_LinesCol.j0])
    | succ kj4 =>
      have H := HA.out
      clear HA
      simp only [exegetelaw04_LinesCol.j0] at H
      by_cases c11 : x35_4 = true
      · subst c11
        have H1 : (some t193) = some r := by rw [if_pos rfl] at H; exact H
        clear H
        have H := H1
        clear H1
        obtain rfl := Option.some.inj H
        go_wp2
        go_ret
        exact ⟨by first | rfl | (simp [errW_none, errW_some] <;> rfl) | (simp [*, errW_none, errW_some] <;> rfl), by repeat (first | (with_reducible first | exact HB.out | apply below_alloc | apply pw_below_drewN | apply below_drew1) | exact HB.out)⟩
      · replace c11 := Bool.eq_false_iff.mpr c11
        subst c11
        have H1 : (exegetelaw04_LinesCol.l0 kj4 l0 a1 a2 0 0) = some r := by rw [if_neg (show ¬ (false = true) by decide)] at H; exact H
        clear H
        have H := H1
        clear H1
        have H' := Aside0.mk H
        clear H
        go_wp2
        go_loopg [8, 9] kj4 (fun kq v8 v9 w' => ∃ (x8_2 : Int) (x9_2 : Int), v8 = .int .i64 x8_2 ∧ v9 = .int .i64 x9_2 ∧ Aside0 (exegetelaw04_LinesCol.l0 kq l0 a1 a2 x8_2 x9_2 = some r) ∧ Aside0 (kq ≤ kj4) ∧ Aside0 (Below w.heap.size w w'))
        case atStart => exact ⟨(0), (0), (by first | rfl | (simp; done) | (simp [*]; done)), (by first | rfl | (simp; done) | (simp [*]; done)), H', ⟨Nat.le_refl _⟩, ⟨by repeat (first | (with_reducible first | exact HB.out | apply below_alloc | apply pw_below_drewN | apply below_drew1) | exact HB.out)⟩⟩
        case round =>
          clear H'
          try clear c1
          try clear p2
          try clear c4
          try clear c7
          try clear c8
          try clear c8b0
          try clear c8b1
          try clear c9
          try clear c9b0
          try clear c10
          try clear c10b0
          try clear c11
          try clear p2
          obtain ⟨x8_2, x9_2, rfl, rfl, HA, HK2, HB⟩ := hrel
          cases gk with
          | zero => exact absurd HA.out (by simp [exegetelaw04_LinesCol.l0])
          | succ k2 =>
            have H := HA.out
            clear HA
            simp only [exegetelaw04_LinesCol.l0] at H
            have HC12 := Aside0.mk H
            clear H
            go_upto_region 6 with (fail)
            go_cut [45] (fun v45 wc => ∃ (kq : Nat) (x45_11 : Bool), v45 = .bool x45_11 ∧ Aside0 (exegetelaw04_LinesCol.j2 kq l0 a1 a2 x8_2 x9_2 x45_11 = some r) ∧ Aside0 (kq ≤ k2) ∧ Aside0 (Below w.heap.size w wc))
            case first =>
              have H := HC12.out
              clear HC12
              by_cases c13 : x9_2 < a1
              · rw [if_pos c13] at H
                have c13b0 : decide (x9_2 < a1) = true := decide_eq_true c13
                clear c13
                (first | rw [c13b0] | (simp only [i64_w, i32_w]; rw [c13b0]) | skip)
                have H' := Aside0.mk H
                clear H
                go_wp2
                go_meet
                case rel => exact ⟨_, (decide (x8_2 < (l0.length : Int))), (by first | rfl | (simp; done) | (simp [*]; done)), H', ⟨by have := HJ4.out; have := HK2.out; first | omega | exact Nat.le_refl _⟩, ⟨by repeat (first | (with_reducible first | exact HB.out | apply below_alloc | apply pw_below_drewN | apply below_drew1) | exact HB.out)⟩⟩
              · rw [if_neg c13] at H
                have c13b0 : decide (x9_2 < a1) = false := decide_eq_false c13
                clear c13
                (first | rw [c13b0] | (simp only [i64_w, i32_w]; rw [c13b0]) | skip)
                have H' := Aside0.mk H
                clear H
                go_wp2
                go_meet
                case rel => exact ⟨_, (false), (by first | rfl | (simp; done) | (simp [*]; done)), H', ⟨by have := HJ4.out; have := HK2.out; first | omega | exact Nat.le_refl _⟩, ⟨by repeat (first | (with_reducible first | exact HB.out | apply below_alloc | apply pw_below_drewN | apply below_drew1) | exact HB.out)⟩⟩
            case rest =>
              clear HC12
              try clear c1
              try clear p2
              try clear c4
              try clear c7
              try clear c8
              try clear c8b0
              try clear c8b1
              try clear c9
              try clear c9b0
              try clear c10
              try clear c10b0
              try clear c11
              try clear c13
              try clear c13b0
              try clear p2
              obtain ⟨kq, x45_11, rfl, HA, HJ11, HB⟩ := hcut
              cases kq with
              | zero => exact absurd HA.out (by simp [exegetelaw04_LinesCol.j2])
              | succ kj11 =>
                have H := HA.out
                clear HA
                simp only [exegetelaw04_LinesCol.j2] at H
                by_cases c14 : x45_11 = true
                · subst c14
                  have H1 : ((utf_Next.f l0 x8_2).bind fun bt194 => (if bt194.2 < 1 then (some false) else (exegetelaw04_LinesCol.l0 kj11 l0 a1 a2 (wrap64 (x8_2 + bt194.2)) (wrap64 (x9_2 + 1))))) = some r := by rw [if_pos rfl] at H; exact H
                  clear H
                  have H := H1
                  clear H1
                  replace H := Option.bind_eq_some_iff.mp H
                  obtain ⟨⟨t194, t195⟩, A150, H⟩ := H
                  replace H : (if t195 < 1 then (some false) else (exegetelaw04_LinesCol.l0 kj11 l0 a1 a2 (wrap64 (x8_2 + t195)) (wrap64 (x9_2 + 1)))) = some r := H
                  have A15 := Aside0.mk A150
                  clear A150
                  by_cases c16 : t195 < 1
                  · rw [if_pos c16] at H
                    have c16b0 : decide (t195 < 1) = true := decide_eq_true c16
                    clear c16
                    obtain rfl := Option.some.inj H
                    go_wp2_with (first | ((with_reducible refine gate_callee (f := 22) rfl ?_); refine goesL_ (some 51) rfl rfl Tryd.func22 (by kernel_rfl) rfl #[.slice A0 l0.length c0, .int .i64 x8_2] rfl (by (try simp only [List.map_toArray, List.map_cons, List.map_nil]); first | done | rfl | (simp only [List.length_drop, List.length_take]; rfl)) ?_; (with_reducible refine (utf_Next.calls _ _ l0 x8_2 t194 t195 _ ?side1 ?side2 A15.out).mono ?_); (case side1 => repeat (first | exact (Kd.C_below HR0.out HB.out) | (with_reducible refine Kd.C_alloc ?_ _) | (with_reducible refine Kd.C_drewN ?_ _) | (with_reducible refine Kd.C_drew ?_))); (case side2 => exact HC0.out); rintro e w17 ⟨rfl, hb⟩; refine ⟨_, rfl, ?_⟩; have n0_ := Aside0.mk (below_step (by repeat (first | (with_reducible first | exact HB.out | apply below_alloc | apply pw_below_drewN | apply below_drew1) | exact HB.out)) hb); clear HB; have HB := n0_; clear n0_; (try clear hb); (try clear hb2); (try clear hk); (try clear hi)))
                    go_ret
                    exact ⟨by first | rfl | (simp [errW_none, errW_some] <;> rfl) | (simp [*, errW_none, errW_some] <;> rfl), by repeat (first | (with_reducible first | exact HB.out | apply below_alloc | apply pw_below_drewN | apply below_drew1) | exact HB.out)⟩
                  · rw [if_neg c16] at H
                    have c16b0 : decide (t195 < 1) = false := decide_eq_false c16
                    clear c16
                    have H' := Aside0.mk H
                    clear H
                    go_wp2_with (first | ((with_reducible refine gate_callee (f := 22) rfl ?_); refine goesL_ (some 51) rfl rfl Tryd.func22 (by kernel_rfl) rfl #[.slice A0 l0.length c0, .int .i64 x8_2] rfl (by (try simp only [List.map_toArray, List.map_cons, List.map_nil]); first | done | rfl | (simp only [List.length_drop, List.length_take]; rfl)) ?_; (with_reducible refine (utf_Next.calls _ _ l0 x8_2 t194 t195 _ ?side1 ?side2 A15.out).mono ?_); (case side1 => repeat (first | exact (Kd.C_below HR0.out HB.out) | (with_reducible refine Kd.C_alloc ?_ _) | (with_reducible refine Kd.C_drewN ?_ _) | (with_reducible refine Kd.C_drew ?_))); (case side2 => exact HC0.out); rintro e w18 ⟨rfl, hb⟩; refine ⟨_, rfl, ?_⟩; have n0_ := Aside0.mk (below_step (by repeat (first | (with_reducible first | exact HB.out | apply below_alloc | apply pw_below_drewN | apply below_drew1) | exact HB.out)) hb); clear HB; have HB := n0_; clear n0_; (try clear hb); (try clear hb2); (try clear hk); (try clear hi)))
                    go_roundg kj11
                    case measure => have := HJ4.out; have := HK2.out; have := HJ11.out; omega
                    case rel => exact ⟨(wrap64 (x8_2 + t195)), (wrap64 (x9_2 + 1)), (by first | rfl | (simp; done) | (simp [*]; done)), (by first | rfl | (simp; done) | (simp [*]; done)), H', ⟨by have := HJ4.out; have := HK2.out; have := HJ11.out; omega⟩, ⟨by repeat (first | (with_reducible first | exact HB.out | apply below_alloc | apply pw_below_drewN | apply below_drew1) | exact HB.out)⟩⟩
                · replace c14 := Bool.eq_false_iff.mpr c14
                  subst c14
                  have H1 : (if x8_2 ≥ (l0.length : Int) then (some (x8_2 == (l0.length : Int))) else ((lines_Col.f kj11 l0 x8_2 a2).bind fun t196 => ((utf_Next.f l0 x8_2).bind fun bt197 => ((lines_Col.f kj11 l0 (wrap64 (x8_2 + bt197.2)) a2).bind fun t199 => ((lines_Begin.f kj11 l0 x8_2).bind fun t200 => (if t200 = x8_2 then (exegetelaw04_LinesCol.j3 kj11 l0 a2 x8_2 t196 t199 (t196 != 0)) else (exegetelaw04_LinesCol.j3 kj11 l0 a2 x8_2 t196 t199 false))))))) = some r := by rw [if_neg (show ¬ (false = true) by decide)] at H; exact H
                  clear H
                  have H := H1
                  clear H1
                  by_cases c19 : x8_2 ≥ (l0.length : Int)
                  · rw [if_pos c19] at H
                    have c19b0 : decide ((l0.length : Int) ≤ x8_2) = true := decide_eq_true c19
                    clear c19
                    obtain rfl := Option.some.inj H
                    go_wp2
                    go_ret
                    exact ⟨by first | rfl | (simp [errW_none, errW_some] <;> rfl) | (simp [*, errW_none, errW_some] <;> rfl), by repeat (first | (with_reducible first | exact HB.out | apply below_alloc | apply pw_below_drewN | apply below_drew1) | exact HB.out)⟩
                  · rw [if_neg c19] at H
                    have c19b0 : decide ((l0.length : Int) ≤ x8_2) = false := decide_eq_false c19
                    clear c19
                    replace H := Option.bind_eq_some_iff.mp H
                    obtain ⟨t196, A200, H⟩ := H
                    replace H : ((utf_Next.f l0 x8_2).bind fun bt197 => ((lines_Col.f kj11 l0 (wrap64 (x8_2 + bt197.2)) a2).bind fun t199 => ((lines_Begin.f kj11 l0 x8_2).bind fun t200 => (if t200 = x8_2 then (exegetelaw04_LinesCol.j3 kj11 l0 a2 x8_2 t196 t199 (t196 != 0)) else (exegetelaw04_LinesCol.j3 kj11 l0 a2 x8_2 t196 t199 false))))) = some r := H
                    have A20 := Aside0.mk A200
                    clear A200
                    replace H := Option.bind_eq_some_iff.mp H
                    obtain ⟨⟨t197, t198⟩, A210, H⟩ := H
                    replace H : ((lines_Col.f kj11 l0 (wrap64 (x8_2 + t198)) a2).bind fun t199 => ((lines_Begin.f kj11 l0 x8_2).bind fun t200 => (if t200 = x8_2 then (exegetelaw04_LinesCol.j3 kj11 l0 a2 x8_2 t196 t199 (t196 != 0)) else (exegetelaw04_LinesCol.j3 kj11 l0 a2 x8_2 t196 t199 false)))) = some r := H
                    have A21 := Aside0.mk A210
                    clear A210
                    replace H := Option.bind_eq_some_iff.mp H
                    obtain ⟨t199, A220, H⟩ := H
                    replace H : ((lines_Begin.f kj11 l0 x8_2).bind fun t200 => (if t200 = x8_2 then (exegetelaw04_LinesCol.j3 kj11 l0 a2 x8_2 t196 t199 (t196 != 0)) else (exegetelaw04_LinesCol.j3 kj11 l0 a2 x8_2 t196 t199 false))) = some r := H
                    have A22 := Aside0.mk A220
                    clear A220
                    have HC23 := Aside0.mk H
                    clear H
                    go_upto_region 17 with (first | ((with_reducible refine gate_callee (f := 20) rfl ?_); refine goesL_ (some 70) rfl rfl Tryd.func20 (by kernel_rfl) rfl #[.slice A0 l0.length c0, .int .i64 x8_2, .int .i64 a2] rfl (by (try simp only [List.map_toArray, List.map_cons, List.map_nil]); first | done | rfl | (simp only [List.length_drop, List.length_take]; rfl)) ?_; (with_reducible refine (lines_Col.calls kj11 _ _ l0 x8_2 a2 t196 _ ?side1 ?side2 A20.out).mono ?_); (case side1 => repeat (first | exact (Kd.C_below HR0.out HB.out) | (with_reducible refine Kd.C_alloc ?_ _) | (with_reducible refine Kd.C_drewN ?_ _) | (with_reducible refine Kd.C_drew ?_))); (case side2 => exact HC0.out); rintro e w24 ⟨rfl, hb⟩; refine ⟨_, rfl, ?_⟩; have n0_ := Aside0.mk (below_step (by repeat (first | (with_reducible first | exact HB.out | apply below_alloc | apply pw_below_drewN | apply below_drew1) | exact HB.out)) hb); clear HB; have HB := n0_; clear n0_; (try clear hb); (try clear hb2); (try clear hk); (try clear hi)) | ((with_reducible refine gate_callee (f := 22) rfl ?_); refine goesL_ (some 74) rfl rfl Tryd.func22 (by kernel_rfl) rfl #[.slice A0 l0.length c0, .int .i64 x8_2] rfl (by (try simp only [List.map_toArray, List.map_cons, List.map_nil]); first | done | rfl | (simp only [List.length_drop, List.length_take]; rfl)) ?_; (with_reducible refine (utf_Next.calls _ _ l0 x8_2 t197 t198 _ ?side1 ?side2 A21.out).mono ?_); (case side1 => repeat (first | exact (Kd.C_below HR0.out HB.out) | (with_reducible refine Kd.C_alloc ?_ _) | (with_reducible refine Kd.C_drewN ?_ _) | (with_reducible refine Kd.C_drew ?_))); (case side2 => exact HC0.out); rintro e w25 ⟨rfl, hb⟩; refine ⟨_, rfl, ?_⟩; have n0_ := Aside0.mk (below_step (by repeat (first | (with_reducible first | exact HB.out | apply below_alloc | apply pw_below_drewN | apply below_drew1) | exact HB.out)) hb); clear HB; have HB := n0_; clear n0_; (try clear hb); (try clear hb2); (try clear hk); (try clear hi)) | ((with_reducible refine gate_callee (f := 20) rfl ?_); refine goesL_ (some 82) rfl rfl Tryd.func20 (by kernel_rfl) rfl #[.slice A0 l0.length c0, .int .i64 (wrap64 (x8_2 + t198)), .int .i64 a2] rfl (by (try simp only [List.map_toArray, List.map_cons, List.map_nil]); first | done | rfl | (simp only [List.length_drop, List.length_take]; rfl)) ?_; (with_reducible refine (lines_Col.calls kj11 _ _ l0 (wrap64 (x8_2 + t198)) a2 t199 _ ?side1 ?side2 A22.out).mono ?_); (case side1 => repeat (first | exact (Kd.C_below HR0.out HB.out) | (with_reducible refine Kd.C_alloc ?_ _) | (with_reducible refine Kd.C_drewN ?_ _) | (with_reducible refine Kd.C_drew ?_))); (case side2 => exact HC0.out); rintro e w26 ⟨rfl, hb⟩; refine ⟨_, rfl, ?_⟩; have n0_ := Aside0.mk (below_step (by repeat (first | (with_reducible first | exact HB.out | apply below_alloc | apply pw_below_drewN | apply below_drew1) | exact HB.out)) hb); clear HB; have HB := n0_; clear n0_; (try clear hb); (try clear hb2); (try clear hk); (try clear hi)))
                    (try simp only [Act.put, List.setIfInBounds_toArray, List.set_cons_zero, List.set_cons_succ])
                    go_cut [91] (fun v91 wc => ∃ (kq : Nat) (x91_22 : Bool), v91 = .bool x91_22 ∧ Aside0 (exegetelaw04_LinesCol.j3 kq l0 a2 x8_2 t196 t199 x91_22 = some r) ∧ Aside0 (kq ≤ kj11) ∧ Aside0 (Below w.heap.size w wc))
                    case first =>
                      have H := HC23.out
                      clear HC23
                      replace H := Option.bind_eq_some_iff.mp H
                      obtain ⟨t200, A270, H⟩ := H
                      replace H : (if t200 = x8_2 then (exegetelaw04_LinesCol.j3 kj11 l0 a2 x8_2 t196 t199 (t196 != 0)) else (exegetelaw04_LinesCol.j3 kj11 l0 a2 x8_2 t196 t199 false)) = some r := H
                      have A27 := Aside0.mk A270
                      clear A270
                      by_cases c28 : t200 = x8_2
                      · rw [if_pos c28] at H
                        have c28b0 : (t200 == x8_2) = true := beq_iff_eq.mpr c28
                        have c28b1 : (t200 != x8_2) = false := bne_eq_false_iff_eq.mpr c28
                        clear c28
                        (first | rw [c28b0] | (simp only [i64_w, i32_w]; rw [c28b0]) | skip)
                        have H' := Aside0.mk H
                        clear H
                        go_wp2_with (first | ((with_reducible refine gate_callee (f := 14) rfl ?_); refine goesL_ (some 85) rfl rfl Tryd.func14 (by kernel_rfl) rfl #[.slice A0 l0.length c0, .int .i64 x8_2] rfl (by (try simp only [List.map_toArray, List.map_cons, List.map_nil]); first | done | rfl | (simp only [List.length_drop, List.length_take]; rfl)) ?_; (with_reducible refine (lines_Begin.calls kj11 _ _ l0 x8_2 t200 _ ?side1 ?side2 A27.out).mono ?_); (case side1 => repeat (first | exact (Kd.C_below HR0.out HB.out) | (with_reducible refine Kd.C_alloc ?_ _) | (with_reducible refine Kd.C_drewN ?_ _) | (with_reducible refine Kd.C_drew ?_))); (case side2 => exact HC0.out); rintro e w' ⟨rfl, ⟨nd, rfl⟩⟩; refine ⟨_, rfl, ?_⟩))
                        go_meet
                        case rel => exact ⟨_, ((t196 != 0)), (by first | rfl | (simp; done) | (simp [*]; done)), H', ⟨by have := HJ4.out; have := HK2.out; have := HJ11.out; first | omega | exact Nat.le_refl _⟩, ⟨by repeat (first | (with_reducible first | exact HB.out | apply below_alloc | apply pw_below_drewN | apply below_drew1) | exact HB.out)⟩⟩
                      · rw [if_neg c28] at H
                        have c28b0 : (t200 == x8_2) = false := beq_eq_false_iff_ne.mpr c28
                        have c28b1 : (t200 != x8_2) = true := bne_iff_ne.mpr c28
                        (first | rw [c28b0] | (simp only [i64_w, i32_w]; rw [c28b0]) | skip)
                        have H' := Aside0.mk H
                        clear H
                        go_wp2_with (first | ((with_reducible refine gate_callee (f := 14) rfl ?_); refine goesL_ (some 85) rfl rfl Tryd.func14 (by kernel_rfl) rfl #[.slice A0 l0.length c0, .int .i64 x8_2] rfl (by (try simp only [List.map_toArray, List.map_cons, List.map_nil]); first | done | rfl | (simp only [List.length_drop, List.length_take]; rfl)) ?_; (with_reducible refine (lines_Begin.calls kj11 _ _ l0 x8_2 t200 _ ?side1 ?side2 A27.out).mono ?_); (case side1 => repeat (first | exact (Kd.C_below HR0.out HB.out) | (with_reducible refine Kd.C_alloc ?_ _) | (with_reducible refine Kd.C_drewN ?_ _) | (with_reducible refine Kd.C_drew ?_))); (case side2 => exact HC0.out); rintro e w' ⟨rfl, ⟨nd, rfl⟩⟩; refine ⟨_, rfl, ?_⟩))
                        go_meet
                        case rel => exact ⟨_, (false), (by first | rfl | (simp; done) | (simp [*]; done)), H', ⟨by have := HJ4.out; have := HK2.out; have := HJ11.out; first | omega | exact Nat.le_refl _⟩, ⟨by repeat (first | (with_reducible first | exact HB.out | apply below_alloc | apply pw_below_drewN | apply below_drew1) | exact HB.out)⟩⟩
                    case rest =>
                      clear HC23
                      try clear c1
                      try clear c2
                      try clear p2
                      try clear c4
                      try clear p6
                      try clear c7
                      try clear c8
                      try clear c8b0
                      try clear c8b1
                      try clear c9
                      try clear c9b0
                      try clear c10
                      try clear c10b0
                      try clear c11
                      try clear c13
                      try clear c13b0
                      try clear c14
                      try clear c16
                      try clear c16b0
                      try clear c19
                      try clear c19b0
                      try clear c20
                      try clear c22
                      try clear c28
                      try clear c28b0
                      try clear c28b1
                      try clear p2
                      obtain ⟨kq, x91_22, rfl, HA, HJ22, HB⟩ := hcut
                      cases kq with
                      | zero => exact absurd HA.out (by simp [exegetelaw04_LinesCol.j3])
                      | succ kj22 =>
                        have H := HA.out
                        clear HA
                        simp only [exegetelaw04_LinesCol.j3] at H
                        by_cases c29 : x91_22 = true
                        · subst c29
                          have H1 : (some false) = some r := by rw [if_pos rfl] at H; exact H
                          clear H
                          have H := H1
                          clear H1
                          obtain rfl := Option.some.inj H
                          go_wp2
                          go_ret
                          exact ⟨by first | rfl | (simp [errW_none, errW_some] <;> rfl) | (simp [*, errW_none, errW_some] <;> rfl), by repeat (first | (with_reducible first | exact HB.out | apply below_alloc | apply pw_below_drewN | apply below_drew1) | exact HB.out)⟩
                        · replace c29 := Bool.eq_false_iff.mpr c29
                          subst c29
                          have H1 : (if 0 ≤ x8_2 then (if x8_2 < (l0.length : Int) then (if (rd l0 x8_2) = 10 then (some (t199 == 0)) else (if (rd l0 x8_2) = 9 then (if a2 = 0 then (none) else (if (Int.tmod t199 a2) = 0 then (if t199 > t196 then (some (decide (t199 ≤ (wrap64 (t196 + a2))))) else (some false)) else (some false))) else (some (t199 == (wrap64 (t196 + 1)))))) else (none)) else (none)) = some r := by rw [if_neg (show ¬ (false = true) by decide)] at H; exact H
                          clear H
                          have H := H1
                          clear H1
                          by_cases c30 : 0 ≤ x8_2
                          · rw [if_pos c30] at H
                            have c30b0 : decide (0 ≤ x8_2) = true := decide_eq_true c30
                            clear c30
                            by_cases c31 : x8_2 < (l0.length : Int)
                            · rw [if_pos c31] at H
                              have c31b0 : decide (x8_2 < (l0.length : Int)) = true := decide_eq_true c31
                              clear c31
                              by_cases c32 : (rd l0 x8_2) = 10
                              · rw [if_pos c32] at H
                                have c32b0 : ((rd l0 x8_2) == 10) = true := beq_iff_eq.mpr c32
                                have c32b1 : ((rd l0 x8_2) != 10) = false := bne_eq_false_iff_eq.mpr c32
                                clear c32
                                obtain rfl := Option.some.inj H
                                have p201 : 0 ≤ (x8_2 : Int) := of_decide_eq_true (by first | (with_reducible assumption) | assumption)
                                have q201 : x8_2 < (l0.length : Int) := of_decide_eq_true (by first | (with_reducible assumption) | assumption)
                                obtain ⟨ad201, e201, hx201_0⟩ := Kd.at_int HR0.out x8_2 p201 q201
                                cases e201
                                replace hx201_0 := (HB.out.cell (World.block_lt_of_cell? w _ hx201_0)).trans hx201_0
                                replace p201 := eq_true p201
                                replace q201 := eq_true q201
                                go_wp2
                                go_ret
                                exact ⟨by first | rfl | (simp [errW_none, errW_some] <;> rfl) | (simp [*, errW_none, errW_some] <;> rfl), by repeat (first | (with_reducible first | exact HB.out | apply below_alloc | apply pw_below_drewN | apply below_drew1) | exact HB.out)⟩
                              · rw [if_neg c32] at H
                                have c32b0 : ((rd l0 x8_2) == 10) = false := beq_eq_false_iff_ne.mpr c32
                                have c32b1 : ((rd l0 x8_2) != 10) = true := bne_iff_ne.mpr c32
                                by_cases c33 : (rd l0 x8_2) = 9
                                · rw [if_pos c33] at H
                                  have c33b0 : ((rd l0 x8_2) == 9) = true := beq_iff_eq.mpr c33
                                  have c33b1 : ((rd l0 x8_2) != 9) = false := bne_eq_false_iff_eq.mpr c33
                                  clear c33
                                  by_cases c34 : a2 = 0
                                  · rw [if_pos c34] at H
                                    exact absurd H (by simp)
                                  · rw [if_neg c34] at H
                                    have c34b0 : (a2 == 0) = false := beq_eq_false_iff_ne.mpr c34
                                    have c34b1 : (a2 != 0) = true := bne_iff_ne.mpr c34
                                    by_cases c35 : (Int.tmod t199 a2) = 0
                                    · rw [if_pos c35] at H
                                      have c35b0 : ((Int.tmod t199 a2) == 0) = true := beq_iff_eq.mpr c35
                                      have c35b1 : ((Int.tmod t199 a2) != 0) = false := bne_eq_false_iff_eq.mpr c35
                                      clear c35
                                      by_cases c36 : t199 > t196
                                      · rw [if_pos c36] at H
                                        have c36b0 : decide (t196 < t199) = true := decide_eq_true c36
                                        clear c36
                                        obtain rfl := Option.some.inj H
                                        have p201 : 0 ≤ (x8_2 : Int) := of_decide_eq_true (by first | (with_reducible assumption) | assumption)
                                        have q201 : x8_2 < (l0.length : Int) := of_decide_eq_true (by first | (with_reducible assumption) | assumption)
                                        obtain ⟨ad201, e201, hx201_0⟩ := Kd.at_int HR0.out x8_2 p201 q201
                                        cases e201
                                        replace hx201_0 := (HB.out.cell (World.block_lt_of_cell? w _ hx201_0)).trans hx201_0
                                        replace p201 := eq_true p201
                                        replace q201 := eq_true q201
                                        have p202 : 0 ≤ (x8_2 : Int) := of_decide_eq_true (by first | (with_reducible assumption) | assumption)
                                        have q202 : x8_2 < (l0.length : Int) := of_decide_eq_true (by first | (with_reducible assumption) | assumption)
                                        obtain ⟨ad202, e202, hx202_0⟩ := Kd.at_int HR0.out x8_2 p202 q202
                                        obtain rfl : ad201 = ad202 := (by injection e202)
                                        replace hx202_0 := (HB.out.cell (World.block_lt_of_cell? w _ hx202_0)).trans hx202_0
                                        replace p202 := eq_true p202
                                        replace q202 := eq_true q202
                                        go_wp2
                                        go_ret
                                        exact ⟨by first | rfl | (simp [errW_none, errW_some] <;> rfl) | (simp [*, errW_none, errW_some] <;> rfl), by repeat (first | (with_reducible first | exact HB.out | apply below_alloc | apply pw_below_drewN | apply below_drew1) | exact HB.out)⟩
                                      · rw [if_neg c36] at H
                                        have c36b0 : decide (t196 < t199) = false := decide_eq_false c36
                                        clear c36
                                        obtain rfl := Option.some.inj H
                                        have p201 : 0 ≤ (x8_2 : Int) := of_decide_eq_true (by first | (with_reducible assumption) | assumption)
                                        have q201 : x8_2 < (l0.length : Int) := of_decide_eq_true (by first | (with_reducible assumption) | assumption)
                                        obtain ⟨ad201, e201, hx201_0⟩ := Kd.at_int HR0.out x8_2 p201 q201
                                        cases e201
                                        replace hx201_0 := (HB.out.cell (World.block_lt_of_cell? w _ hx201_0)).trans hx201_0
                                        replace p201 := eq_true p201
                                        replace q201 := eq_true q201
                                        have p202 : 0 ≤ (x8_2 : Int) := of_decide_eq_true (by first | (with_reducible assumption) | assumption)
                                        have q202 : x8_2 < (l0.length : Int) := of_decide_eq_true (by first | (with_reducible assumption) | assumption)
                                        obtain ⟨ad202, e202, hx202_0⟩ := Kd.at_int HR0.out x8_2 p202 q202
                                        obtain rfl : ad201 = ad202 := (by injection e202)
                                        replace hx202_0 := (HB.out.cell (World.block_lt_of_cell? w _ hx202_0)).trans hx202_0
                                        replace p202 := eq_true p202
                                        replace q202 := eq_true q202
                                        go_wp2
                                        go_ret
                                        exact ⟨by first | rfl | (simp [errW_none, errW_some] <;> rfl) | (simp [*, errW_none, errW_some] <;> rfl), by repeat (first | (with_reducible first | exact HB.out | apply below_alloc | apply pw_below_drewN | apply below_drew1) | exact HB.out)⟩
                                    · rw [if_neg c35] at H
                                      have c35b0 : ((Int.tmod t199 a2) == 0) = false := beq_eq_false_iff_ne.mpr c35
                                      have c35b1 : ((Int.tmod t199 a2) != 0) = true := bne_iff_ne.mpr c35
                                      obtain rfl := Option.some.inj H
                                      have p201 : 0 ≤ (x8_2 : Int) := of_decide_eq_true (by first | (with_reducible assumption) | assumption)
                                      have q201 : x8_2 < (l0.length : Int) := of_decide_eq_true (by first | (with_reducible assumption) | assumption)
                                      obtain ⟨ad201, e201, hx201_0⟩ := Kd.at_int HR0.out x8_2 p201 q201
                                      cases e201
                                      replace hx201_0 := (HB.out.cell (World.block_lt_of_cell? w _ hx201_0)).trans hx201_0
                                      replace p201 := eq_true p201
                                      replace q201 := eq_true q201
                                      have p202 : 0 ≤ (x8_2 : Int) := of_decide_eq_true (by first | (with_reducible assumption) | assumption)
                                      have q202 : x8_2 < (l0.length : Int) := of_decide_eq_true (by first | (with_reducible assumption) | assumption)
                                      obtain ⟨ad202, e202, hx202_0⟩ := Kd.at_int HR0.out x8_2 p202 q202
                                      obtain rfl : ad201 = ad202 := (by injection e202)
                                      replace hx202_0 := (HB.out.cell (World.block_lt_of_cell? w _ hx202_0)).trans hx202_0
                                      replace p202 := eq_true p202
                                      replace q202 := eq_true q202
                                      go_wp2
                                      go_ret
                                      exact ⟨by first | rfl | (simp [errW_none, errW_some] <;> rfl) | (simp [*, errW_none, errW_some] <;> rfl), by repeat (first | (with_reducible first | exact HB.out | apply below_alloc | apply pw_below_drewN | apply below_drew1) | exact HB.out)⟩
                                · rw [if_neg c33] at H
                                  have c33b0 : ((rd l0 x8_2) == 9) = false := beq_eq_false_iff_ne.mpr c33
                                  have c33b1 : ((rd l0 x8_2) != 9) = true := bne_iff_ne.mpr c33
                                  obtain rfl := Option.some.inj H
                                  have p201 : 0 ≤ (x8_2 : Int) := of_decide_eq_true (by first | (with_reducible assumption) | assumption)
                                  have q201 : x8_2 < (l0.length : Int) := of_decide_eq_true (by first | (with_reducible assumption) | assumption)
                                  obtain ⟨ad201, e201, hx201_0⟩ := Kd.at_int HR0.out x8_2 p201 q201
                                  cases e201
                                  replace hx201_0 := (HB.out.cell (World.block_lt_of_cell? w _ hx201_0)).trans hx201_0
                                  replace p201 := eq_true p201
                                  replace q201 := eq_true q201
                                  have p202 : 0 ≤ (x8_2 : Int) := of_decide_eq_true (by first | (with_reducible assumption) | assumption)
                                  have q202 : x8_2 < (l0.length : Int) := of_decide_eq_true (by first | (with_reducible assumption) | assumption)
                                  obtain ⟨ad202, e202, hx202_0⟩ := Kd.at_int HR0.out x8_2 p202 q202
                                  obtain rfl : ad201 = ad202 := (by injection e202)
                                  replace hx202_0 := (HB.out.cell (World.block_lt_of_cell? w _ hx202_0)).trans hx202_0
                                  replace p202 := eq_true p202
                                  replace q202 := eq_true q202
                                  go_wp2
                                  go_ret
                                  exact ⟨by first | rfl | (simp [errW_none, errW_some] <;> rfl) | (simp [*, errW_none, errW_some] <;> rfl), by repeat (first | (with_reducible first | exact HB.out | apply below_alloc | apply pw_below_drewN | apply below_drew1) | exact HB.out)⟩
                            · rw [if_neg c31] at H
                              exact absurd H (by simp)
                          · rw [if_neg c30] at H
                            exact absurd H (by simp)

/-- THE ONE PURE STATEMENT of exegetelaw04_LinesCol: yours. -/
def exegetelaw04_LinesCol.Pure : Prop := ∀ (l0 : List Int) (a1 : Int) (a2 : Int), l0.length ≤ maxLen → l0.length * 1 ≤ 140737488351232 → (∀ x ∈ l0, (Lit.int .u8 x).wf = true) → (Lit.int .i64 a1).wf = true → (Lit.int .i64 a2).wf = true → ∃ k, exegetelaw04_LinesCol.f k l0 a1 a2 = some true
theorem exegetelaw04_LinesCol.walk (P : exegetelaw04_LinesCol.Pure) (a0 : Option Addr) (len0 cap0 : Nat) (z0 : List Int) (a1 : Int) (a2 : Int) (w : World) (w0 : (a0 = none ∧ len0 = 0 ∧ cap0 = 0 ∧ z0 = []) ∨ ∃ x, a0 = some x ∧ len0 ≤ cap0 ∧ cap0 ≤ maxLen ∧ z0.length = cap0 ∧ (∀ i, i < z0.length → w.cell? (x.add i) = some (.int .u8 (z0.getD i 0))) ∧ ∀ n ∈ z0, (Lit.int .u8 n).wf = true) (y0 : len0 * 1 ≤ 140737488351232) (w1 : (Lit.int .i64 a1).wf = true) (w2 : (Lit.int .i64 a2).wf = true) :
    Calls Tryd.prog 4 #[.slice a0 len0 cap0, .int .i64 a1, .int .i64 a2] w fun e w' => e = .returned (.bool true) ∧ Below w.heap.size w w' := by
  obtain ⟨l0, rfl, hr0, hm0, hw0, hc0⟩ := ReadsInt.ofRowC w0
  obtain ⟨k, h⟩ := P l0 a1 a2 hm0 y0 hw0 w1 w2
  refine (exegetelaw04_LinesCol.calls k _ _ l0 a1 a2 true w (Kd.C_of_reads (d := (0 : Int)) (h1 := fun _ => rfl) hr0) hc0 h).mono ?_
  rintro e w' ⟨rfl, hd⟩
  exact ⟨rfl, hd⟩

end Go.Proofs.YtahabdogohdjeaaDoor.All
