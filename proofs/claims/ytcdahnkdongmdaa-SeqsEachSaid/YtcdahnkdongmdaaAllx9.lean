/- Contracts of functions of the program, each for every input, printed for this claim by a program out of the translation, some written by hand. -/
import Derived.Test.YtcdahnkdongmdaaAllx0
import Derived.Test.YtcdahnkdongmdaaAllx4
import Derived.Test.YtcdahnkdongmdaaAllx6
import Derived.Test.YtcdahnkdongmdaaAllx7
import Derived.Test.YtcdahnkdongmdaaAllx8
namespace Go.Proofs.Ytcdahnkdongmdaa.All
open Go.RowKit Go.Proofs.YtcdahnkdongmdaaW.PrintWords Go.Proofs.YtcdahnkdongmdaaW.PrintLast Go.Proofs.YtcdahnkdongmdaaW.PrintMore
attribute [local go_sem] max2_int min2_int max_two min_two max_three min_three max_four min_four   -- for this text's walks alone
set_option linter.unusedVariables false
set_option linter.unusedSimpArgs false

/-! ### exegetelaw03_SeqsEach: function 3 -/
mutual
def exegetelaw03_SeqsEach.j0 : Nat → List (S35) → Int → Bool → List Int → Bool → Option (Bool)
  | 0, _, _, _, _, _ => none
  | k + 1, x0, x1, x5, x6, x27 => if x27 = true then (some x5) else ((seqs_Of.f k x0).bind fun t196 => (exegetelaw03_SeqsEach.l0 k x0 x1 x6 t196 0 0))
def exegetelaw03_SeqsEach.l0 : Nat → List (S35) → Int → List Int → List (List (S35)) → Int → Int → Option (Bool)
  | 0, _, _, _, _, _, _ => none
  | k + 1, x0, x1, x6, x8, x9, x10 => if x10 < (x8.length : Int) then (if 0 ≤ x10 then (if x10 ≤ (wrap64 (x10 + 1)) then (if (wrap64 (x10 + 1)) ≤ (x8.length : Int) then ((seqs_Match.f k ((x8.take ((wrap64 (x10 + 1)) : Int).toNat).drop (x10 : Int).toNat) x6 0).bind fun t203 => (if t203 = (x6.length : Int) then (exegetelaw03_SeqsEach.l0 k x0 x1 x6 x8 (wrap64 (x9 + 1)) (wrap64 (x10 + 1))) else (exegetelaw03_SeqsEach.l0 k x0 x1 x6 x8 x9 (wrap64 (x10 + 1))))) else (none)) else (none)) else (none)) else (if x9 = 1 then ((ranges_Has.f x0 x1).bind fun t204 => (if t204 = true then (some true) else (if x9 = 0 then ((ranges_Has.f x0 x1).bind fun t205 => (some (!t205))) else (some false)))) else (if x9 = 0 then ((ranges_Has.f x0 x1).bind fun t206 => (some (!t206))) else (some false)))
end
def exegetelaw03_SeqsEach.f (k : Nat) (l0 : List (S35)) (a1 : Int) : Option (Bool) := (exegetelaw03_awake.f k).bind fun t191 => ((utf_Put.f a1).bind fun bt192 => (if t191 = true then (if (l0.length : Int) > 20 then (exegetelaw03_SeqsEach.j0 k l0 a1 t191 bt192.1 true) else (exegetelaw03_SeqsEach.j0 k l0 a1 t191 bt192.1 (!bt192.2))) else (exegetelaw03_SeqsEach.j0 k l0 a1 t191 bt192.1 true)))
theorem exegetelaw03_SeqsEach.mono_l : ∀ k, (∀ y0 y1 y2 y3 y4, LeO (exegetelaw03_SeqsEach.j0 k y0 y1 y2 y3 y4) (exegetelaw03_SeqsEach.j0 (k + 1) y0 y1 y2 y3 y4)) ∧ (∀ y0 y1 y2 y3 y4 y5, LeO (exegetelaw03_SeqsEach.l0 k y0 y1 y2 y3 y4 y5) (exegetelaw03_SeqsEach.l0 (k + 1) y0 y1 y2 y3 y4 y5))
  | 0 => ⟨fun _ _ _ _ _ r h => by simp [exegetelaw03_SeqsEach.j0] at h, fun _ _ _ _ _ _ r h => by simp [exegetelaw03_SeqsEach.l0] at h⟩
  | k + 1 => by
    obtain ⟨ih0, ih1⟩ := exegetelaw03_SeqsEach.mono_l k
    refine ⟨?_, ?_⟩
    · intro y0 y1 y2 y3 y4
      unfold exegetelaw03_SeqsEach.j0
      repeat' first
      | (with_reducible exact ih0 _ _ _ _ _)
      | (with_reducible exact ih1 _ _ _ _ _ _)
      | (with_reducible exact exegetelaw03_awake.mono _)
      | (with_reducible exact seqs_Match.mono _ _ _ _)
      | (with_reducible exact seqs_Of.mono _ _)
      | (with_reducible exact LeO.refl _)
      | (with_reducible exact LeO.none _)
      | (with_reducible refine LeO.ite ?_ ?_)
      | (with_reducible refine LeO.bind ?_ (fun _ => ?_))
      | exact ih0 _ _ _ _ _
      | exact ih1 _ _ _ _ _ _
      | exact exegetelaw03_awake.mono _
      | exact seqs_Match.mono _ _ _ _
      | exact seqs_Of.mono _ _
      | exact LeO.none _
      | refine LeO.ite ?_ ?_
      | refine LeO.bind ?_ (fun _ => ?_)
    · intro y0 y1 y2 y3 y4 y5
      unfold exegetelaw03_SeqsEach.l0
      repeat' first
      | (with_reducible exact ih0 _ _ _ _ _)
      | (with_reducible exact ih1 _ _ _ _ _ _)
      | (with_reducible exact exegetelaw03_awake.mono _)
      | (with_reducible exact seqs_Match.mono _ _ _ _)
      | (with_reducible exact seqs_Of.mono _ _)
      | (with_reducible exact LeO.refl _)
      | (with_reducible exact LeO.none _)
      | (with_reducible refine LeO.ite ?_ ?_)
      | (with_reducible refine LeO.bind ?_ (fun _ => ?_))
      | exact ih0 _ _ _ _ _
      | exact ih1 _ _ _ _ _ _
      | exact exegetelaw03_awake.mono _
      | exact seqs_Match.mono _ _ _ _
      | exact seqs_Of.mono _ _
      | exact LeO.none _
      | refine LeO.ite ?_ ?_
      | refine LeO.bind ?_ (fun _ => ?_)
theorem exegetelaw03_SeqsEach.mono : ∀ a0 a1 k, LeO (exegetelaw03_SeqsEach.f k a0 a1) (exegetelaw03_SeqsEach.f (k + 1) a0 a1) := by
  intro a0 a1 k
  obtain ⟨ih0, ih1⟩ := exegetelaw03_SeqsEach.mono_l k
  unfold exegetelaw03_SeqsEach.f
  repeat' first
      | (with_reducible exact ih0 _ _ _ _ _)
      | (with_reducible exact ih1 _ _ _ _ _ _)
      | (with_reducible exact exegetelaw03_awake.mono _)
      | (with_reducible exact seqs_Match.mono _ _ _ _)
      | (with_reducible exact seqs_Of.mono _ _)
      | (with_reducible exact LeO.refl _)
      | (with_reducible exact LeO.none _)
      | (with_reducible refine LeO.ite ?_ ?_)
      | (with_reducible refine LeO.bind ?_ (fun _ => ?_))
      | exact ih0 _ _ _ _ _
      | exact ih1 _ _ _ _ _ _
      | exact exegetelaw03_awake.mono _
      | exact seqs_Match.mono _ _ _ _
      | exact seqs_Of.mono _ _
      | exact LeO.none _
      | refine LeO.ite ?_ ?_
      | refine LeO.bind ?_ (fun _ => ?_)
set_option maxHeartbeats 8000000 in
set_option maxRecDepth 100000 in
theorem exegetelaw03_SeqsEach.calls (k : Nat) (A0 : Option Addr) (c0 : Nat) (l0 : List (S35)) (a1 : Int) (r : Bool) (w : World) (hr0 : Kd.C k35 w A0 l0.length l0) (hc0 : l0.length ≤ c0) (h : exegetelaw03_SeqsEach.f k l0 a1 = some r) :
    Calls Try.prog 3 #[.slice A0 l0.length c0, .int .i64 a1] w fun e w' => e = .returned (.bool r) ∧ Below w.heap.size w w' := by
  have HR0 := Aside0.mk hr0
  have HC0 := Aside0.mk hc0
  clear hr0 hc0
  have HB := Aside0.mk (Below.refl w.heap.size w)
  have H : ((exegetelaw03_awake.f k).bind fun t191 => ((utf_Put.f a1).bind fun bt192 => (if t191 = true then (if (l0.length : Int) > 20 then (exegetelaw03_SeqsEach.j0 k l0 a1 t191 bt192.1 true) else (exegetelaw03_SeqsEach.j0 k l0 a1 t191 bt192.1 (!bt192.2))) else (exegetelaw03_SeqsEach.j0 k l0 a1 t191 bt192.1 true)))) = some r := h
  clear h
  replace H := Option.bind_eq_some_iff.mp H
  obtain ⟨t191, A30, H⟩ := H
  replace H : ((utf_Put.f a1).bind fun bt192 => (if t191 = true then (if (l0.length : Int) > 20 then (exegetelaw03_SeqsEach.j0 k l0 a1 t191 bt192.1 true) else (exegetelaw03_SeqsEach.j0 k l0 a1 t191 bt192.1 (!bt192.2))) else (exegetelaw03_SeqsEach.j0 k l0 a1 t191 bt192.1 true))) = some r := H
  have A3 := Aside0.mk A30
  clear A30
  replace H := Option.bind_eq_some_iff.mp H
  obtain ⟨⟨t192, t193⟩, A40, H⟩ := H
  replace H : (if t191 = true then (if (l0.length : Int) > 20 then (exegetelaw03_SeqsEach.j0 k l0 a1 t191 t192 true) else (exegetelaw03_SeqsEach.j0 k l0 a1 t191 t192 (!t193))) else (exegetelaw03_SeqsEach.j0 k l0 a1 t191 t192 true)) = some r := H
  have A4 := Aside0.mk A40
  clear A40
  have HC5 := Aside0.mk H
  clear H
  go_enter Try.func3, Try.ntmps3
  go_upto_region 3 with (first | ((with_reducible refine gate_callee (f := 14) rfl ?_); refine goesL_ (some 11) rfl rfl Try.func14 (by kernel_rfl) rfl #[] rfl (by (try simp only [List.map_toArray, List.map_cons, List.map_nil]); first | done | rfl | (simp only [List.length_drop, List.length_take]; rfl)) ?_; (with_reducible refine (exegetelaw03_awake.calls k  t191 _ A3.out).mono ?_); rintro e w6 ⟨rfl, hb⟩; refine ⟨_, rfl, ?_⟩; have n0_ := Aside0.mk (below_step (by repeat (first | (with_reducible first | exact HB.out | apply below_alloc | apply pw_below_drewN | apply below_drew1) | exact HB.out)) hb); clear HB; have HB := n0_; clear n0_; (try clear hb); (try clear hb2); (try clear hk); (try clear hi)) | ((with_reducible refine gate_callee (f := 15) rfl ?_); refine goesL_ (some 14) rfl rfl Try.func15 (by kernel_rfl) rfl #[.int .i64 a1] rfl (by (try simp only [List.map_toArray, List.map_cons, List.map_nil]); first | done | rfl | (simp only [List.length_drop, List.length_take]; rfl)) ?_; (with_reducible refine (utf_Put.calls a1 t192 t193 _ A4.out).mono ?_); rintro e w7 ⟨v194, rfl, ho0, hb⟩; refine ⟨_, rfl, ?_⟩; have n0_ := Aside0.mk (Kd.R_lower ho0 (below_size (by repeat (first | (with_reducible first | exact HB.out | apply below_alloc | apply pw_below_drewN | apply below_drew1) | exact HB.out)))); have n1_ := Aside0.mk (below_step (by repeat (first | (with_reducible first | exact HB.out | apply below_alloc | apply pw_below_drewN | apply below_drew1) | exact HB.out)) hb); clear HB; have HO195 := n0_; have HB := n1_; clear n0_ n1_; (try clear hb); (try clear hb2); (try clear hk); (try clear hi); (try clear ho0)))
  (try simp only [Act.put, List.setIfInBounds_toArray, List.set_cons_zero, List.set_cons_succ])
  go_cut [27] (fun v27 wc => ∃ (kq : Nat) (x27_4 : Bool), v27 = .bool x27_4 ∧ Aside0 (exegetelaw03_SeqsEach.j0 kq l0 a1 t191 t192 x27_4 = some r) ∧ Aside0 (kq ≤ k) ∧ Aside0 (Kd.R (Kd.int .u8) 5 wc w.heap.size (fun _ => True) v194 t192) ∧ Aside0 (Below w.heap.size w wc))
  case first =>
    have H := HC5.out
    clear HC5
    by_cases c8 : t191 = true
    · subst c8
      have H1 : (if (l0.length : Int) > 20 then (exegetelaw03_SeqsEach.j0 k l0 a1 true t192 true) else (exegetelaw03_SeqsEach.j0 k l0 a1 true t192 (!t193))) = some r := by rw [if_pos rfl] at H; exact H
      clear H
      have H := H1
      clear H1
      by_cases c9 : (l0.length : Int) > 20
      · rw [if_pos c9] at H
        have c9b0 : decide (20 < (l0.length : Int)) = true := decide_eq_true c9
        have c9b1 : decide (20 < l0.length) = true := decide_eq_true (by omega)
        clear c9
        (first | rw [c9b0] | (simp only [i64_w, i32_w]; rw [c9b0]) | skip)
        have H' := Aside0.mk H
        clear H
        go_wp2
        go_meet
        case rel => exact ⟨_, (true), (by first | rfl | (simp; done) | (simp [*]; done) | (simp [*, bne]; done)), H', ⟨by first | omega | exact Nat.le_refl _⟩, ⟨by (with_reducible repeat (first | apply Kd.R_alloc | apply Kd.R_drewN | apply Kd.R_drew)); exact HO195.out⟩, ⟨by repeat (first | (with_reducible first | exact HB.out | apply below_alloc | apply pw_below_drewN | apply below_drew1) | exact HB.out)⟩⟩
      · rw [if_neg c9] at H
        have c9b0 : decide (20 < (l0.length : Int)) = false := decide_eq_false c9
        have c9b1 : decide (20 < l0.length) = false := decide_eq_false (by omega)
        clear c9
        (first | rw [c9b0] | (simp only [i64_w, i32_w]; rw [c9b0]) | skip)
        have H' := Aside0.mk H
        clear H
        go_wp2
        go_meet
        case rel => exact ⟨_, (!t193), (by first | rfl | (simp; done) | (simp [*]; done) | (simp [*, bne]; done)), H', ⟨by first | omega | exact Nat.le_refl _⟩, ⟨by (with_reducible repeat (first | apply Kd.R_alloc | apply Kd.R_drewN | apply Kd.R_drew)); exact HO195.out⟩, ⟨by repeat (first | (with_reducible first | exact HB.out | apply below_alloc | apply pw_below_drewN | apply below_drew1) | exact HB.out)⟩⟩
    · replace c8 := Bool.eq_false_iff.mpr c8
      subst c8
      have H1 : (exegetelaw03_SeqsEach.j0 k l0 a1 false t192 true) = some r := by rw [if_neg (show ¬ (false = true) by decide)] at H; exact H
      clear H
      have H := H1
      clear H1
      have H' := Aside0.mk H
      clear H
      go_wp2
      go_meet
      case rel => exact ⟨_, (true), (by first | rfl | (simp; done) | (simp [*]; done) | (simp [*, bne]; done)), H', ⟨by first | omega | exact Nat.le_refl _⟩, ⟨by (with_reducible repeat (first | apply Kd.R_alloc | apply Kd.R_drewN | apply Kd.R_drew)); exact HO195.out⟩, ⟨by repeat (first | (with_reducible first | exact HB.out | apply below_alloc | apply pw_below_drewN | apply below_drew1) | exact HB.out)⟩⟩
  case rest =>
    clear HC5
    try clear c1
    try clear p2
    try clear c3
    try clear c8
    try clear c9
    try clear c9b0
    try clear c9b1
    obtain ⟨kq, x27_4, rfl, HA, HJ4, HO_6, HB⟩ := hcut
    cases kq with
    | zero => exact absurd HA.out (by simp [exegetelaw03_SeqsEach.j0])
    | succ kj4 =>
      have H := HA.out
      clear HA
      simp only [exegetelaw03_SeqsEach.j0] at H
      by_cases c10 : x27_4 = true
      · subst c10
        have H1 : (some t191) = some r := by rw [if_pos rfl] at H; exact H
        clear H
        have H := H1
        clear H1
        obtain rfl := Option.some.inj H
        go_wp2
        go_ret
        exact ⟨by first | rfl | (simp [errW_none, errW_some] <;> rfl) | (simp [*, errW_none, errW_some] <;> rfl), by repeat (first | (with_reducible first | exact HB.out | apply below_alloc | apply pw_below_drewN | apply below_drew1) | exact HB.out)⟩
      · replace c10 := Bool.eq_false_iff.mpr c10
        subst c10
        have H1 : ((seqs_Of.f kj4 l0).bind fun t196 => (exegetelaw03_SeqsEach.l0 kj4 l0 a1 t192 t196 0 0)) = some r := by rw [if_neg (show ¬ (false = true) by decide)] at H; exact H
        clear H
        have H := H1
        clear H1
        replace H := Option.bind_eq_some_iff.mp H
        obtain ⟨t196, A110, H⟩ := H
        replace H : (exegetelaw03_SeqsEach.l0 kj4 l0 a1 t192 t196 0 0) = some r := H
        have A11 := Aside0.mk A110
        clear A110
        have H' := Aside0.mk H
        clear H
        go_wp2_with (first | ((with_reducible refine gate_callee (f := 16) rfl ?_); refine goesL_ (some 30) rfl rfl Try.func16 (by kernel_rfl) rfl #[.slice A0 l0.length c0] rfl (by (try simp only [List.map_toArray, List.map_cons, List.map_nil]); first | done | rfl | (simp only [List.length_drop, List.length_take]; rfl)) ?_; (with_reducible refine (seqs_Of.calls kj4 _ _ l0 t196 _ ?side1 ?side2 A11.out).mono ?_); (case side1 => repeat (first | exact (Kd.C_below HR0.out HB.out) | (with_reducible refine Kd.C_alloc ?_ _) | (with_reducible refine Kd.C_drewN ?_ _) | (with_reducible refine Kd.C_drew ?_))); (case side2 => exact HC0.out); rintro e w12 ⟨v197, rfl, ho0, hb⟩; refine ⟨_, rfl, ?_⟩; have n0_ := Aside0.mk (Kd.R_below (by (with_reducible repeat (first | apply Kd.R_alloc | apply Kd.R_drewN | apply Kd.R_drew)); exact HO_6.out) hb); have n1_ := Aside0.mk (Kd.S_lower ho0 (below_size (by repeat (first | (with_reducible first | exact HB.out | apply below_alloc | apply pw_below_drewN | apply below_drew1) | exact HB.out)))); have n2_ := Aside0.mk (below_step (by repeat (first | (with_reducible first | exact HB.out | apply below_alloc | apply pw_below_drewN | apply below_drew1) | exact HB.out)) hb); clear HO_6; clear HB; have HO_6 := n0_; have HO198 := n1_; have HB := n2_; clear n0_ n1_ n2_; (try clear hb); (try clear hb2); (try clear hk); (try clear hi); (try clear ho0)))
        go_loopg [9, 10] kj4 (fun kq v9 v10 w' => ∃ (x9_2 : Int) (x10_2 : Int), v9 = .int .i64 x9_2 ∧ v10 = .int .i64 x10_2 ∧ Aside0 (exegetelaw03_SeqsEach.l0 kq l0 a1 t192 t196 x9_2 x10_2 = some r) ∧ Aside0 (kq ≤ kj4) ∧ Aside0 (Kd.R (Kd.int .u8) 5 w' w.heap.size (fun _ => True) v194 t192) ∧ Aside0 (Kd.S (Kd.slice 35 k35) 22 w' w.heap.size (fun _ => True) v197 t196) ∧ Aside0 (Below w.heap.size w w'))
        case atStart => exact ⟨(0), (0), (by first | rfl | (simp; done) | (simp [*]; done) | (simp [*, bne]; done)), (by first | rfl | (simp; done) | (simp [*]; done) | (simp [*, bne]; done)), H', ⟨Nat.le_refl _⟩, ⟨by (with_reducible repeat (first | apply Kd.R_alloc | apply Kd.R_drewN | apply Kd.R_drew)); exact HO_6.out⟩, ⟨by (with_reducible repeat (first | apply Kd.S_alloc | apply Kd.S_drewN | apply Kd.S_drew)); exact HO198.out⟩, ⟨by repeat (first | (with_reducible first | exact HB.out | apply below_alloc | apply pw_below_drewN | apply below_drew1) | exact HB.out)⟩⟩
        case round =>
          clear H'
          try clear c1
          try clear p2
          try clear c3
          try clear c8
          try clear c9
          try clear c9b0
          try clear c9b1
          try clear c10
          try clear p2
          obtain ⟨x9_2, x10_2, rfl, rfl, HA, HK2, HO_6, HO_8, HB⟩ := hrel
          cases gk with
          | zero => exact absurd HA.out (by simp [exegetelaw03_SeqsEach.l0])
          | succ k2 =>
            have H := HA.out
            clear HA
            simp only [exegetelaw03_SeqsEach.l0] at H
            by_cases c13 : x10_2 < (t196.length : Int)
            · rw [if_pos c13] at H
              have c13b0 : decide (x10_2 < (t196.length : Int)) = true := decide_eq_true c13
              clear c13
              by_cases c14 : 0 ≤ x10_2
              · rw [if_pos c14] at H
                have c14b0 := eq_true c14
                have c14b1 : decide (0 ≤ x10_2) = true := decide_eq_true c14
                clear c14
                by_cases c15 : x10_2 ≤ (wrap64 (x10_2 + 1))
                · rw [if_pos c15] at H
                  have c15b0 := eq_true c15
                  have c15b1 : decide (x10_2 ≤ (wrap64 (x10_2 + 1))) = true := decide_eq_true c15
                  by_cases c16 : (wrap64 (x10_2 + 1)) ≤ (t196.length : Int)
                  · rw [if_pos c16] at H
                    have c16b0 := eq_true c16
                    have c16b1 : decide ((wrap64 (x10_2 + 1)) ≤ (t196.length : Int)) = true := decide_eq_true c16
                    obtain ⟨y199, hy199⟩ : ∃ y_ : List (List (S35)), y_ = ((t196.take ((wrap64 (x10_2 + 1)) : Int).toNat).drop (x10_2 : Int).toNat) := ⟨_, rfl⟩
                    replace H : ((seqs_Match.f k2 y199 t192 0).bind fun t203 => (if t203 = (t192.length : Int) then (exegetelaw03_SeqsEach.l0 k2 l0 a1 t192 t196 (wrap64 (x9_2 + 1)) (wrap64 (x10_2 + 1))) else (exegetelaw03_SeqsEach.l0 k2 l0 a1 t192 t196 x9_2 (wrap64 (x10_2 + 1))))) = some r := by first | (rw [hy199]; with_reducible exact H) | (have H2_ := (Option.bind_some _ _).symm.trans H; rw [hy199]; with_reducible exact H2_) | (have H2_ := (Option.bind_some _ _).symm.trans H; with_reducible exact H2_) | with_reducible exact H | (rw [hy199]; exact H) | exact H
                    have Ny199 := Aside0.mk hy199
                    clear hy199
                    replace H := Option.bind_eq_some_iff.mp H
                    obtain ⟨t203, A170, H⟩ := H
                    replace H : (if t203 = (t192.length : Int) then (exegetelaw03_SeqsEach.l0 k2 l0 a1 t192 t196 (wrap64 (x9_2 + 1)) (wrap64 (x10_2 + 1))) else (exegetelaw03_SeqsEach.l0 k2 l0 a1 t192 t196 x9_2 (wrap64 (x10_2 + 1)))) = some r := H
                    have A17 := Aside0.mk A170
                    clear A170
                    by_cases c18 : t203 = (t192.length : Int)
                    · rw [if_pos c18] at H
                      have c18b0 : (t203 == (t192.length : Int)) = true := beq_iff_eq.mpr c18
                      have c18b1 : (t203 != (t192.length : Int)) = false := bne_eq_false_iff_eq.mpr c18
                      clear c18
                      have H' := Aside0.mk H
                      clear H
                      obtain ⟨Ao19, co19, eo19⟩ := Kd.S_slice HO_8.out
                      subst eo19
                      have q20 : ((wrap64 (x10_2 + 1)) : Int) ≤ ((t196.length : Int) : Int) := of_decide_eq_true (by first | (with_reducible assumption) | assumption)
                      obtain ⟨i020, hi020, _, hsz20, _⟩ := info_parts info22
                      have hroom20 : t196.length ≤ co19 := (Kd.S_reads' HO_8.out).2.1
                      have hC20 : Kd.C (Kd.slice 35 k35) _ Ao19 t196.length t196 := (Kd.S_reads' HO_8.out).2.2
                      have ql20 : (x10_2 : Int) ≤ ((wrap64 (x10_2 + 1)) : Int) := of_decide_eq_true (by first | (with_reducible assumption) | assumption)
                      have q020 : (0 : Int) ≤ (x10_2 : Int) := of_decide_eq_true (by first | (with_reducible assumption) | assumption)
                      have hw20_0 : IntKind.i64.wrap (x10_2 + 1) = wrap64 (x10_2 + 1) := IntWalk.i64_left _; have hcut20 := cut_mid (P := Try.prog) 27 22 .i64 .i64 Try.underlying27 hi020 1 hsz20 Ao19 t196.length co19 x10_2 (wrap64 (x10_2 + 1)) q020 ql20 q20 hroom20
                      have hr20 := Kd.C_mid (lo := (x10_2 : Int).toNat) (hi := ((wrap64 (x10_2 + 1)) : Int).toNat) (c := co19) hC20 (by omega) (by omega) hroom20
                      obtain ⟨A20, hA20⟩ : ∃ A1_, A1_ = (if co19 = (x10_2 : Int).toNat then Ao19 else (Ao19 : Option Addr).map (·.add ((x10_2 : Int).toNat * 1))) := ⟨_, rfl⟩
                      obtain ⟨c20, hc20⟩ : ∃ c1_, c1_ = co19 - (x10_2 : Int).toNat := ⟨_, rfl⟩
                      have hy20 : y199.length = ((wrap64 (x10_2 + 1)) : Int).toNat - (x10_2 : Int).toNat := (by rw [Ny199.out, List.length_drop, List.length_take] <;> omega)
                      rw [show ((t196).take ((wrap64 (x10_2 + 1)) : Int).toNat).drop (x10_2 : Int).toNat = y199 from Ny199.out.symm] at hr20
                      replace hr20 : Kd.C (Kd.slice 35 k35) _ A20 y199.length y199 := (by rw [hA20]; exact hr20)
                      rw [← hy20, ← hA20, ← hc20] at hcut20
                      have HR202 := Aside0.mk hr20
                      have HC202 := Aside0.mk (show y199.length ≤ c20 from by rw [hy20, hc20]; exact Nat.sub_le_sub_right (Nat.le_trans (by omega) hroom20) _)
                      clear hr20 hC20 hroom20 hi020 hsz20 hc20
                      have KY20 := Aside0.mk hy20
                      have KA20 := Aside0.mk hA20
                      clear hy20 hA20
                      have KL20 := Aside0.mk (show ((wrap64 (x10_2 + 1)) : Int).toNat ≤ t196.length from by omega)
                      have KM20 := Aside0.mk (show (x10_2 : Int).toNat ≤ ((wrap64 (x10_2 + 1)) : Int).toNat from by omega)
                      replace q20 := eq_true q20
                      obtain ⟨Ao21, co21, eo21⟩ := Kd.R_slice HO_6.out
                      subst eo21
                      go_wp2_with (first | ((with_reducible refine gate_callee (f := 17) rfl ?_); refine goesL_ (some 43) rfl rfl Try.func17 (by kernel_rfl) rfl #[.slice A20 y199.length c20, .slice Ao21 t192.length co21, .int .i64 0] rfl (by (try simp only [List.map_toArray, List.map_cons, List.map_nil]); first | done | rfl | (simp only [List.length_drop, List.length_take]; rfl)) ?_; (with_reducible refine (seqs_Match.calls k2 _ _ y199 _ _ t192 0 t203 _ ?side1 ?side2 ?side3 ?side4 A17.out).mono ?_); (case side1 => repeat (first | exact (by repeat (first | (with_reducible exact HR202.out) | (with_reducible refine Kd.C_alloc ?_ _) | (with_reducible refine Kd.C_drewN ?_ _) | (with_reducible refine Kd.C_drew ?_) | exact HR202.out)) | (with_reducible refine Kd.C_alloc ?_ _) | (with_reducible refine Kd.C_drewN ?_ _) | (with_reducible refine Kd.C_drew ?_))); (case side2 => exact HC202.out); (case side3 => repeat (first | exact (Kd.R_reads' HO_6.out).2.2 | (with_reducible refine Kd.C_alloc ?_ _) | (with_reducible refine Kd.C_drewN ?_ _) | (with_reducible refine Kd.C_drew ?_))); (case side4 => exact (Kd.R_reads' HO_6.out).2.1); rintro e w22 ⟨rfl, hb⟩; refine ⟨_, rfl, ?_⟩; have n0_ := Aside0.mk (Kd.R_below (by (with_reducible repeat (first | apply Kd.R_alloc | apply Kd.R_drewN | apply Kd.R_drew)); exact HO_6.out) hb); have n1_ := Aside0.mk (Kd.S_below (by (with_reducible repeat (first | apply Kd.S_alloc | apply Kd.S_drewN | apply Kd.S_drew)); exact HO_8.out) hb); have n2_ := Aside0.mk (Kd.C_below (by repeat (first | (with_reducible exact HR202.out) | (with_reducible refine Kd.C_alloc ?_ _) | (with_reducible refine Kd.C_drewN ?_ _) | (with_reducible refine Kd.C_drew ?_) | exact HR202.out)) hb); have n3_ := Aside0.mk (below_step (by repeat (first | (with_reducible first | exact HB.out | apply below_alloc | apply pw_below_drewN | apply below_drew1) | exact HB.out)) hb); clear HO_6; clear HO_8; clear HR202; clear HB; have HO_6 := n0_; have HO_8 := n1_; have HR202 := n2_; have HB := n3_; clear n0_ n1_ n2_ n3_; (try clear hb); (try clear hb2); (try clear hk); (try clear hi)))
                      go_roundg k2
                      case measure => have := HJ4.out; have := HK2.out; omega
                      case rel => exact ⟨(wrap64 (x9_2 + 1)), (wrap64 (x10_2 + 1)), (by first | rfl | (simp; done) | (simp [*]; done) | (simp [*, bne]; done)), (by first | rfl | (simp; done) | (simp [*]; done) | (simp [*, bne]; done)), H', ⟨by have := HJ4.out; have := HK2.out; omega⟩, ⟨by (with_reducible repeat (first | apply Kd.R_alloc | apply Kd.R_drewN | apply Kd.R_drew)); exact HO_6.out⟩, ⟨by (with_reducible repeat (first | apply Kd.S_alloc | apply Kd.S_drewN | apply Kd.S_drew)); exact HO_8.out⟩, ⟨by repeat (first | (with_reducible first | exact HB.out | apply below_alloc | apply pw_below_drewN | apply below_drew1) | exact HB.out)⟩⟩
                    · rw [if_neg c18] at H
                      have c18b0 : (t203 == (t192.length : Int)) = false := beq_eq_false_iff_ne.mpr c18
                      have c18b1 : (t203 != (t192.length : Int)) = true := bne_iff_ne.mpr c18
                      have H' := Aside0.mk H
                      clear H
                      obtain ⟨Ao23, co23, eo23⟩ := Kd.S_slice HO_8.out
                      subst eo23
                      have q24 : ((wrap64 (x10_2 + 1)) : Int) ≤ ((t196.length : Int) : Int) := of_decide_eq_true (by first | (with_reducible assumption) | assumption)
                      obtain ⟨i024, hi024, _, hsz24, _⟩ := info_parts info22
                      have hroom24 : t196.length ≤ co23 := (Kd.S_reads' HO_8.out).2.1
                      have hC24 : Kd.C (Kd.slice 35 k35) _ Ao23 t196.length t196 := (Kd.S_reads' HO_8.out).2.2
                      have ql24 : (x10_2 : Int) ≤ ((wrap64 (x10_2 + 1)) : Int) := of_decide_eq_true (by first | (with_reducible assumption) | assumption)
                      have q024 : (0 : Int) ≤ (x10_2 : Int) := of_decide_eq_true (by first | (with_reducible assumption) | assumption)
                      have hw24_0 : IntKind.i64.wrap (x10_2 + 1) = wrap64 (x10_2 + 1) := IntWalk.i64_left _; have hcut24 := cut_mid (P := Try.prog) 27 22 .i64 .i64 Try.underlying27 hi024 1 hsz24 Ao23 t196.length co23 x10_2 (wrap64 (x10_2 + 1)) q024 ql24 q24 hroom24
                      have hr24 := Kd.C_mid (lo := (x10_2 : Int).toNat) (hi := ((wrap64 (x10_2 + 1)) : Int).toNat) (c := co23) hC24 (by omega) (by omega) hroom24
                      obtain ⟨A24, hA24⟩ : ∃ A1_, A1_ = (if co23 = (x10_2 : Int).toNat then Ao23 else (Ao23 : Option Addr).map (·.add ((x10_2 : Int).toNat * 1))) := ⟨_, rfl⟩
                      obtain ⟨c24, hc24⟩ : ∃ c1_, c1_ = co23 - (x10_2 : Int).toNat := ⟨_, rfl⟩
                      have hy24 : y199.length = ((wrap64 (x10_2 + 1)) : Int).toNat - (x10_2 : Int).toNat := (by rw [Ny199.out, List.length_drop, List.length_take] <;> omega)
                      rw [show ((t196).take ((wrap64 (x10_2 + 1)) : Int).toNat).drop (x10_2 : Int).toNat = y199 from Ny199.out.symm] at hr24
                      replace hr24 : Kd.C (Kd.slice 35 k35) _ A24 y199.length y199 := (by rw [hA24]; exact hr24)
                      rw [← hy24, ← hA24, ← hc24] at hcut24
                      have HR202 := Aside0.mk hr24
                      have HC202 := Aside0.mk (show y199.length ≤ c24 from by rw [hy24, hc24]; exact Nat.sub_le_sub_right (Nat.le_trans (by omega) hroom24) _)
                      clear hr24 hC24 hroom24 hi024 hsz24 hc24
                      have KY24 := Aside0.mk hy24
                      have KA24 := Aside0.mk hA24
                      clear hy24 hA24
                      have KL24 := Aside0.mk (show ((wrap64 (x10_2 + 1)) : Int).toNat ≤ t196.length from by omega)
                      have KM24 := Aside0.mk (show (x10_2 : Int).toNat ≤ ((wrap64 (x10_2 + 1)) : Int).toNat from by omega)
                      replace q24 := eq_true q24
                      obtain ⟨Ao25, co25, eo25⟩ := Kd.R_slice HO_6.out
                      subst eo25
                      go_wp2_with (first | ((with_reducible refine gate_callee (f := 17) rfl ?_); refine goesL_ (some 43) rfl rfl Try.func17 (by kernel_rfl) rfl #[.slice A24 y199.length c24, .slice Ao25 t192.length co25, .int .i64 0] rfl (by (try simp only [List.map_toArray, List.map_cons, List.map_nil]); first | done | rfl | (simp only [List.length_drop, List.length_take]; rfl)) ?_; (with_reducible refine (seqs_Match.calls k2 _ _ y199 _ _ t192 0 t203 _ ?side1 ?side2 ?side3 ?side4 A17.out).mono ?_); (case side1 => repeat (first | exact (by repeat (first | (with_reducible exact HR202.out) | (with_reducible refine Kd.C_alloc ?_ _) | (with_reducible refine Kd.C_drewN ?_ _) | (with_reducible refine Kd.C_drew ?_) | exact HR202.out)) | (with_reducible refine Kd.C_alloc ?_ _) | (with_reducible refine Kd.C_drewN ?_ _) | (with_reducible refine Kd.C_drew ?_))); (case side2 => exact HC202.out); (case side3 => repeat (first | exact (Kd.R_reads' HO_6.out).2.2 | (with_reducible refine Kd.C_alloc ?_ _) | (with_reducible refine Kd.C_drewN ?_ _) | (with_reducible refine Kd.C_drew ?_))); (case side4 => exact (Kd.R_reads' HO_6.out).2.1); rintro e w26 ⟨rfl, hb⟩; refine ⟨_, rfl, ?_⟩; have n0_ := Aside0.mk (Kd.R_below (by (with_reducible repeat (first | apply Kd.R_alloc | apply Kd.R_drewN | apply Kd.R_drew)); exact HO_6.out) hb); have n1_ := Aside0.mk (Kd.S_below (by (with_reducible repeat (first | apply Kd.S_alloc | apply Kd.S_drewN | apply Kd.S_drew)); exact HO_8.out) hb); have n2_ := Aside0.mk (Kd.C_below (by repeat (first | (with_reducible exact HR202.out) | (with_reducible refine Kd.C_alloc ?_ _) | (with_reducible refine Kd.C_drewN ?_ _) | (with_reducible refine Kd.C_drew ?_) | exact HR202.out)) hb); have n3_ := Aside0.mk (below_step (by repeat (first | (with_reducible first | exact HB.out | apply below_alloc | apply pw_below_drewN | apply below_drew1) | exact HB.out)) hb); clear HO_6; clear HO_8; clear HR202; clear HB; have HO_6 := n0_; have HO_8 := n1_; have HR202 := n2_; have HB := n3_; clear n0_ n1_ n2_ n3_; (try clear hb); (try clear hb2); (try clear hk); (try clear hi)))
                      go_roundg k2
                      case measure => have := HJ4.out; have := HK2.out; omega
                      case rel => exact ⟨(x9_2), (wrap64 (x10_2 + 1)), (by first | rfl | (simp; done) | (simp [*]; done) | (simp [*, bne]; done)), (by first | rfl | (simp; done) | (simp [*]; done) | (simp [*, bne]; done)), H', ⟨by have := HJ4.out; have := HK2.out; omega⟩, ⟨by (with_reducible repeat (first | apply Kd.R_alloc | apply Kd.R_drewN | apply Kd.R_drew)); exact HO_6.out⟩, ⟨by (with_reducible repeat (first | apply Kd.S_alloc | apply Kd.S_drewN | apply Kd.S_drew)); exact HO_8.out⟩, ⟨by repeat (first | (with_reducible first | exact HB.out | apply below_alloc | apply pw_below_drewN | apply below_drew1) | exact HB.out)⟩⟩
                  · rw [if_neg c16] at H
                    exact absurd H (by simp)
                · rw [if_neg c15] at H
                  exact absurd H (by simp)
              · rw [if_neg c14] at H
                exact absurd H (by simp)
            · rw [if_neg c13] at H
              have c13b0 : decide (x10_2 < (t196.length : Int)) = false := decide_eq_false c13
              clear c13
              by_cases c27 : x9_2 = 1
              · rw [if_pos c27] at H
                have c27b0 : (x9_2 == 1) = true := beq_iff_eq.mpr c27
                have c27b1 : (x9_2 != 1) = false := bne_eq_false_iff_eq.mpr c27
                clear c27
                replace H := Option.bind_eq_some_iff.mp H
                obtain ⟨t204, A280, H⟩ := H
                replace H : (if t204 = true then (some true) else (if x9_2 = 0 then ((ranges_Has.f l0 a1).bind fun t205 => (some (!t205))) else (some false))) = some r := H
                have A28 := Aside0.mk A280
                clear A280
                by_cases c29 : t204 = true
                · subst c29
                  have H1 : (some true) = some r := by rw [if_pos rfl] at H; exact H
                  clear H
                  have H := H1
                  clear H1
                  obtain rfl := Option.some.inj H
                  obtain ⟨Ao30, co30, eo30⟩ := Kd.S_slice HO_8.out
                  subst eo30
                  go_wp2_with (first | (go_at_call 18; (with_reducible refine (ranges_Has.calls _ _ l0 a1 true _ ?side1 ?side2 A28.out).mono ?_); (case side1 => repeat (first | exact (Kd.C_below HR0.out HB.out) | (with_reducible refine Kd.C_alloc ?_ _) | (with_reducible refine Kd.C_drewN ?_ _) | (with_reducible refine Kd.C_drew ?_))); (case side2 => exact HC0.out); rintro e w31 ⟨rfl, hb⟩; have n0_ := Aside0.mk (Kd.R_below (by (with_reducible repeat (first | apply Kd.R_alloc | apply Kd.R_drewN | apply Kd.R_drew)); exact HO_6.out) hb); have n1_ := Aside0.mk (Kd.S_below (by (with_reducible repeat (first | apply Kd.S_alloc | apply Kd.S_drewN | apply Kd.S_drew)); exact HO_8.out) hb); have n2_ := Aside0.mk (below_step (by repeat (first | (with_reducible first | exact HB.out | apply below_alloc | apply pw_below_drewN | apply below_drew1) | exact HB.out)) hb); clear HO_6; clear HO_8; clear HB; have HO_6 := n0_; have HO_8 := n1_; have HB := n2_; clear n0_ n1_ n2_; (try clear hb); (try clear hb2); (try clear hk); (try clear hi)))
                  go_ret
                  exact ⟨by first | rfl | (simp [errW_none, errW_some] <;> rfl) | (simp [*, errW_none, errW_some] <;> rfl), by repeat (first | (with_reducible first | exact HB.out | apply below_alloc | apply pw_below_drewN | apply below_drew1) | exact HB.out)⟩
                · replace c29 := Bool.eq_false_iff.mpr c29
                  subst c29
                  have H1 : (if x9_2 = 0 then ((ranges_Has.f l0 a1).bind fun t205 => (some (!t205))) else (some false)) = some r := by rw [if_neg (show ¬ (false = true) by decide)] at H; exact H
                  clear H
                  have H := H1
                  clear H1
                  by_cases c32 : x9_2 = 0
                  · rw [if_pos c32] at H
                    have c32b0 : (x9_2 == 0) = true := beq_iff_eq.mpr c32
                    have c32b1 : (x9_2 != 0) = false := bne_eq_false_iff_eq.mpr c32
                    clear c32
                    replace H := Option.bind_eq_some_iff.mp H
                    obtain ⟨t205, A330, H⟩ := H
                    replace H : (some (!t205)) = some r := H
                    have A33 := Aside0.mk A330
                    clear A330
                    (try (have e_A33_A28 := Option.some.inj (A33.out.symm.trans A28.out)))
                    obtain rfl := Option.some.inj H
                    obtain ⟨Ao34, co34, eo34⟩ := Kd.S_slice HO_8.out
                    subst eo34
                    go_wp2_with (first | (go_at_call 18; (with_reducible refine (ranges_Has.calls _ _ l0 a1 false _ ?side1 ?side2 A28.out).mono ?_); (case side1 => repeat (first | exact (Kd.C_below HR0.out HB.out) | (with_reducible refine Kd.C_alloc ?_ _) | (with_reducible refine Kd.C_drewN ?_ _) | (with_reducible refine Kd.C_drew ?_))); (case side2 => exact HC0.out); rintro e w35 ⟨rfl, hb⟩; have n0_ := Aside0.mk (Kd.R_below (by (with_reducible repeat (first | apply Kd.R_alloc | apply Kd.R_drewN | apply Kd.R_drew)); exact HO_6.out) hb); have n1_ := Aside0.mk (Kd.S_below (by (with_reducible repeat (first | apply Kd.S_alloc | apply Kd.S_drewN | apply Kd.S_drew)); exact HO_8.out) hb); have n2_ := Aside0.mk (below_step (by repeat (first | (with_reducible first | exact HB.out | apply below_alloc | apply pw_below_drewN | apply below_drew1) | exact HB.out)) hb); clear HO_6; clear HO_8; clear HB; have HO_6 := n0_; have HO_8 := n1_; have HB := n2_; clear n0_ n1_ n2_; (try clear hb); (try clear hb2); (try clear hk); (try clear hi)) | (go_at_call 18; (with_reducible refine (ranges_Has.calls _ _ l0 a1 t205 _ ?side1 ?side2 A33.out).mono ?_); (case side1 => repeat (first | exact (Kd.C_below HR0.out HB.out) | (with_reducible refine Kd.C_alloc ?_ _) | (with_reducible refine Kd.C_drewN ?_ _) | (with_reducible refine Kd.C_drew ?_))); (case side2 => exact HC0.out); rintro e w36 ⟨rfl, hb⟩; have n0_ := Aside0.mk (Kd.R_below (by (with_reducible repeat (first | apply Kd.R_alloc | apply Kd.R_drewN | apply Kd.R_drew)); exact HO_6.out) hb); have n1_ := Aside0.mk (Kd.S_below (by (with_reducible repeat (first | apply Kd.S_alloc | apply Kd.S_drewN | apply Kd.S_drew)); exact HO_8.out) hb); have n2_ := Aside0.mk (below_step (by repeat (first | (with_reducible first | exact HB.out | apply below_alloc | apply pw_below_drewN | apply below_drew1) | exact HB.out)) hb); clear HO_6; clear HO_8; clear HB; have HO_6 := n0_; have HO_8 := n1_; have HB := n2_; clear n0_ n1_ n2_; (try clear hb); (try clear hb2); (try clear hk); (try clear hi)))
                    go_ret
                    exact ⟨by first | rfl | (simp [errW_none, errW_some] <;> rfl) | (simp [*, errW_none, errW_some] <;> rfl), by repeat (first | (with_reducible first | exact HB.out | apply below_alloc | apply pw_below_drewN | apply below_drew1) | exact HB.out)⟩
                  · rw [if_neg c32] at H
                    have c32b0 : (x9_2 == 0) = false := beq_eq_false_iff_ne.mpr c32
                    have c32b1 : (x9_2 != 0) = true := bne_iff_ne.mpr c32
                    obtain rfl := Option.some.inj H
                    obtain ⟨Ao37, co37, eo37⟩ := Kd.S_slice HO_8.out
                    subst eo37
                    go_wp2_with (first | (go_at_call 18; (with_reducible refine (ranges_Has.calls _ _ l0 a1 false _ ?side1 ?side2 A28.out).mono ?_); (case side1 => repeat (first | exact (Kd.C_below HR0.out HB.out) | (with_reducible refine Kd.C_alloc ?_ _) | (with_reducible refine Kd.C_drewN ?_ _) | (with_reducible refine Kd.C_drew ?_))); (case side2 => exact HC0.out); rintro e w38 ⟨rfl, hb⟩; have n0_ := Aside0.mk (Kd.R_below (by (with_reducible repeat (first | apply Kd.R_alloc | apply Kd.R_drewN | apply Kd.R_drew)); exact HO_6.out) hb); have n1_ := Aside0.mk (Kd.S_below (by (with_reducible repeat (first | apply Kd.S_alloc | apply Kd.S_drewN | apply Kd.S_drew)); exact HO_8.out) hb); have n2_ := Aside0.mk (below_step (by repeat (first | (with_reducible first | exact HB.out | apply below_alloc | apply pw_below_drewN | apply below_drew1) | exact HB.out)) hb); clear HO_6; clear HO_8; clear HB; have HO_6 := n0_; have HO_8 := n1_; have HB := n2_; clear n0_ n1_ n2_; (try clear hb); (try clear hb2); (try clear hk); (try clear hi)))
                    go_ret
                    exact ⟨by first | rfl | (simp [errW_none, errW_some] <;> rfl) | (simp [*, errW_none, errW_some] <;> rfl), by repeat (first | (with_reducible first | exact HB.out | apply below_alloc | apply pw_below_drewN | apply below_drew1) | exact HB.out)⟩
              · rw [if_neg c27] at H
                have c27b0 : (x9_2 == 1) = false := beq_eq_false_iff_ne.mpr c27
                have c27b1 : (x9_2 != 1) = true := bne_iff_ne.mpr c27
                by_cases c39 : x9_2 = 0
                · rw [if_pos c39] at H
                  have c39b0 : (x9_2 == 0) = true := beq_iff_eq.mpr c39
                  have c39b1 : (x9_2 != 0) = false := bne_eq_false_iff_eq.mpr c39
                  clear c39
                  replace H := Option.bind_eq_some_iff.mp H
                  obtain ⟨t206, A400, H⟩ := H
                  replace H : (some (!t206)) = some r := H
                  have A40 := Aside0.mk A400
                  clear A400
                  (try (have e_A40_A28 := Option.some.inj (A40.out.symm.trans A28.out)))
                  (try (have e_A40_A28 := Option.some.inj (A40.out.symm.trans A28.out)))
                  obtain rfl := Option.some.inj H
                  obtain ⟨Ao41, co41, eo41⟩ := Kd.S_slice HO_8.out
                  subst eo41
                  go_wp2_with (first | (go_at_call 18; (with_reducible refine (ranges_Has.calls _ _ l0 a1 t206 _ ?side1 ?side2 A40.out).mono ?_); (case side1 => repeat (first | exact (Kd.C_below HR0.out HB.out) | (with_reducible refine Kd.C_alloc ?_ _) | (with_reducible refine Kd.C_drewN ?_ _) | (with_reducible refine Kd.C_drew ?_))); (case side2 => exact HC0.out); rintro e w42 ⟨rfl, hb⟩; have n0_ := Aside0.mk (Kd.R_below (by (with_reducible repeat (first | apply Kd.R_alloc | apply Kd.R_drewN | apply Kd.R_drew)); exact HO_6.out) hb); have n1_ := Aside0.mk (Kd.S_below (by (with_reducible repeat (first | apply Kd.S_alloc | apply Kd.S_drewN | apply Kd.S_drew)); exact HO_8.out) hb); have n2_ := Aside0.mk (below_step (by repeat (first | (with_reducible first | exact HB.out | apply below_alloc | apply pw_below_drewN | apply below_drew1) | exact HB.out)) hb); clear HO_6; clear HO_8; clear HB; have HO_6 := n0_; have HO_8 := n1_; have HB := n2_; clear n0_ n1_ n2_; (try clear hb); (try clear hb2); (try clear hk); (try clear hi)))
                  go_ret
                  exact ⟨by first | rfl | (simp [errW_none, errW_some] <;> rfl) | (simp [*, errW_none, errW_some] <;> rfl), by repeat (first | (with_reducible first | exact HB.out | apply below_alloc | apply pw_below_drewN | apply below_drew1) | exact HB.out)⟩
                · rw [if_neg c39] at H
                  have c39b0 : (x9_2 == 0) = false := beq_eq_false_iff_ne.mpr c39
                  have c39b1 : (x9_2 != 0) = true := bne_iff_ne.mpr c39
                  obtain rfl := Option.some.inj H
                  obtain ⟨Ao43, co43, eo43⟩ := Kd.S_slice HO_8.out
                  subst eo43
                  go_wp2
                  go_ret
                  exact ⟨by first | rfl | (simp [errW_none, errW_some] <;> rfl) | (simp [*, errW_none, errW_some] <;> rfl), by repeat (first | (with_reducible first | exact HB.out | apply below_alloc | apply pw_below_drewN | apply below_drew1) | exact HB.out)⟩

/-- THE ONE PURE STATEMENT of exegetelaw03_SeqsEach: yours. -/
def exegetelaw03_SeqsEach.Pure : Prop := ∀ (l0 : List (S35)) (a1 : Int), l0.length ≤ maxLen → (∀ x ∈ l0, (Lit.int .i64 x.f0).wf = true ∧ (Lit.int .i64 x.f1).wf = true) → (Lit.int .i64 a1).wf = true → ∃ k, exegetelaw03_SeqsEach.f k l0 a1 = some true
theorem exegetelaw03_SeqsEach.walk (P : exegetelaw03_SeqsEach.Pure) (a0 : Option Addr) (cap0 : Nat) (l0 : List (S35)) (a1 : Int) (w : World) (hr0 : Kd.C k35 w a0 l0.length l0) (hm0 : l0.length ≤ maxLen) (hc0 : l0.length ≤ cap0) (hw0 : ∀ x ∈ l0, (Lit.int .i64 x.f0).wf = true ∧ (Lit.int .i64 x.f1).wf = true) (w1 : (Lit.int .i64 a1).wf = true) :
    Calls Try.prog 3 #[.slice a0 l0.length cap0, .int .i64 a1] w fun e w' => e = .returned (.bool true) ∧ Below w.heap.size w w' := by
  obtain ⟨k, h⟩ := P l0 a1 hm0 hw0 w1
  refine (exegetelaw03_SeqsEach.calls k _ _ l0 a1 true w hr0 hc0 h).mono ?_
  rintro e w' ⟨rfl, hd⟩
  exact ⟨rfl, hd⟩

end Go.Proofs.Ytcdahnkdongmdaa.All
