/- Contracts of functions of the program, each for every input, printed for this claim by a program out of the translation, some written by hand. -/
import Derived.Test.YtcdahnkdongmdaaAllx0
import Derived.Test.YtcdahnkdongmdaaAllx6
import Derived.Test.YtcdahnkdongmdaaAllx8
import Derived.Test.YtcdahnkdongmdaaAllx9
namespace Go.Proofs.Ytcdahnkdongmdaa.All
open Go.RowKit Go.Proofs.YtcdahnkdongmdaaW.PrintWords Go.Proofs.YtcdahnkdongmdaaW.PrintLast Go.Proofs.YtcdahnkdongmdaaW.PrintMore
attribute [local go_sem] max2_int min2_int max_two min_two max_three min_three max_four min_four   -- for this text's walks alone
set_option linter.unusedVariables false
set_option linter.unusedSimpArgs false

/-! ### exegetelaw03_SeqsBytes: function 6 -/
mutual
def exegetelaw03_SeqsBytes.j0 : Nat → List (S35) → Bool → Bool → Option (Bool)
  | 0, _, _, _ => none
  | k + 1, x0, x3, x16 => if x16 = true then (some x3) else ((seqs_Of.f k x0).bind fun t197 => (exegetelaw03_SeqsBytes.l0 k x0 t197 0 0))
def exegetelaw03_SeqsBytes.l0 : Nat → List (S35) → List (List (S35)) → Int → Int → Option (Bool)
  | 0, _, _, _, _ => none
  | k + 1, x0, x4, x5, x6 => if x6 < (x4.length : Int) then (if 0 ≤ x6 then (if ((rd_L2 x4 x6).length : Int) < 1 then (exegetelaw03_SeqsBytes.j2 k x0 x4 x5 x6 true) else (exegetelaw03_SeqsBytes.j2 k x0 x4 x5 x6 (decide (((rd_L2 x4 x6).length : Int) > 4)))) else (none)) else ((ranges_Less.f x0 (([(⟨55296, 57343⟩ : S35)] : List (S35)))).bind fun t203 => ((ranges_Size.f k t203).bind fun t206 => (some (x5 == t206))))
def exegetelaw03_SeqsBytes.j2 : Nat → List (S35) → List (List (S35)) → Int → Int → Bool → Option (Bool)
  | 0, _, _, _, _, _ => none
  | k + 1, x0, x4, x5, x6, x39 => if x39 = true then (some false) else (exegetelaw03_SeqsBytes.l1 k x0 x4 x5 x6 1 0)
def exegetelaw03_SeqsBytes.l1 : Nat → List (S35) → List (List (S35)) → Int → Int → Int → Int → Option (Bool)
  | 0, _, _, _, _, _, _ => none
  | k + 1, x0, x4, x5, x6, x7, x8 => if 0 ≤ x6 then (if x6 < (x4.length : Int) then (if x8 < ((rd_L2 x4 x6).length : Int) then (if 0 ≤ x8 then (if ((rd_T35 (rd_L2 x4 x6) x8).f0) < 0 then (some false) else (if ((rd_T35 (rd_L2 x4 x6) x8).f0) > ((rd_T35 (rd_L2 x4 x6) x8).f1) then (some false) else (if ((rd_T35 (rd_L2 x4 x6) x8).f1) > 255 then (some false) else (exegetelaw03_SeqsBytes.l1 k x0 x4 x5 x6 (wrap64 (x7 * (wrap64 ((wrap64 (((rd_T35 (rd_L2 x4 x6) x8).f1) - ((rd_T35 (rd_L2 x4 x6) x8).f0))) + 1)))) (wrap64 (x8 + 1)))))) else (none)) else (exegetelaw03_SeqsBytes.l0 k x0 x4 (wrap64 (x5 + x7)) (wrap64 (x6 + 1)))) else (none)) else (none)
end
def exegetelaw03_SeqsBytes.f (k : Nat) (l0 : List (S35)) : Option (Bool) := (exegetelaw03_awake.f k).bind fun t196 => (if t196 = true then (exegetelaw03_SeqsBytes.j0 k l0 t196 (decide ((l0.length : Int) > 20))) else (exegetelaw03_SeqsBytes.j0 k l0 t196 true))
theorem exegetelaw03_SeqsBytes.mono_l : ∀ k, (∀ y0 y1 y2, LeO (exegetelaw03_SeqsBytes.j0 k y0 y1 y2) (exegetelaw03_SeqsBytes.j0 (k + 1) y0 y1 y2)) ∧ (∀ y0 y1 y2 y3, LeO (exegetelaw03_SeqsBytes.l0 k y0 y1 y2 y3) (exegetelaw03_SeqsBytes.l0 (k + 1) y0 y1 y2 y3)) ∧ (∀ y0 y1 y2 y3 y4, LeO (exegetelaw03_SeqsBytes.j2 k y0 y1 y2 y3 y4) (exegetelaw03_SeqsBytes.j2 (k + 1) y0 y1 y2 y3 y4)) ∧ (∀ y0 y1 y2 y3 y4 y5, LeO (exegetelaw03_SeqsBytes.l1 k y0 y1 y2 y3 y4 y5) (exegetelaw03_SeqsBytes.l1 (k + 1) y0 y1 y2 y3 y4 y5))
  | 0 => ⟨fun _ _ _ r h => by simp [exegetelaw03_SeqsBytes.j0] at h, fun _ _ _ _ r h => by simp [exegetelaw03_SeqsBytes.l0] at h, fun _ _ _ _ _ r h => by simp [exegetelaw03_SeqsBytes.j2] at h, fun _ _ _ _ _ _ r h => by simp [exegetelaw03_SeqsBytes.l1] at h⟩
  | k + 1 => by
    obtain ⟨ih0, ih1, ih2, ih3⟩ := exegetelaw03_SeqsBytes.mono_l k
    refine ⟨?_, ?_, ?_, ?_⟩
    · intro y0 y1 y2
      unfold exegetelaw03_SeqsBytes.j0
      repeat' first
      | (with_reducible exact ih0 _ _ _)
      | (with_reducible exact ih1 _ _ _ _)
      | (with_reducible exact ih2 _ _ _ _ _)
      | (with_reducible exact ih3 _ _ _ _ _ _)
      | (with_reducible exact exegetelaw03_awake.mono _)
      | (with_reducible exact ranges_Size.mono _ _)
      | (with_reducible exact seqs_Of.mono _ _)
      | (with_reducible exact LeO.refl _)
      | (with_reducible exact LeO.none _)
      | (with_reducible refine LeO.ite ?_ ?_)
      | (with_reducible refine LeO.bind ?_ (fun _ => ?_))
      | exact ih0 _ _ _
      | exact ih1 _ _ _ _
      | exact ih2 _ _ _ _ _
      | exact ih3 _ _ _ _ _ _
      | exact exegetelaw03_awake.mono _
      | exact ranges_Size.mono _ _
      | exact seqs_Of.mono _ _
      | exact LeO.none _
      | refine LeO.ite ?_ ?_
      | refine LeO.bind ?_ (fun _ => ?_)
    · intro y0 y1 y2 y3
      unfold exegetelaw03_SeqsBytes.l0
      repeat' first
      | (with_reducible exact ih0 _ _ _)
      | (with_reducible exact ih1 _ _ _ _)
      | (with_reducible exact ih2 _ _ _ _ _)
      | (with_reducible exact ih3 _ _ _ _ _ _)
      | (with_reducible exact exegetelaw03_awake.mono _)
      | (with_reducible exact ranges_Size.mono _ _)
      | (with_reducible exact seqs_Of.mono _ _)
      | (with_reducible exact LeO.refl _)
      | (with_reducible exact LeO.none _)
      | (with_reducible refine LeO.ite ?_ ?_)
      | (with_reducible refine LeO.bind ?_ (fun _ => ?_))
      | exact ih0 _ _ _
      | exact ih1 _ _ _ _
      | exact ih2 _ _ _ _ _
      | exact ih3 _ _ _ _ _ _
      | exact exegetelaw03_awake.mono _
      | exact ranges_Size.mono _ _
      | exact seqs_Of.mono _ _
      | exact LeO.none _
      | refine LeO.ite ?_ ?_
      | refine LeO.bind ?_ (fun _ => ?_)
    · intro y0 y1 y2 y3 y4
      unfold exegetelaw03_SeqsBytes.j2
      repeat' first
      | (with_reducible exact ih0 _ _ _)
      | (with_reducible exact ih1 _ _ _ _)
      | (with_reducible exact ih2 _ _ _ _ _)
      | (with_reducible exact ih3 _ _ _ _ _ _)
      | (with_reducible exact exegetelaw03_awake.mono _)
      | (with_reducible exact ranges_Size.mono _ _)
      | (with_reducible exact seqs_Of.mono _ _)
      | (with_reducible exact LeO.refl _)
      | (with_reducible exact LeO.none _)
      | (with_reducible refine LeO.ite ?_ ?_)
      | (with_reducible refine LeO.bind ?_ (fun _ => ?_))
      | exact ih0 _ _ _
      | exact ih1 _ _ _ _
      | exact ih2 _ _ _ _ _
      | exact ih3 _ _ _ _ _ _
      | exact exegetelaw03_awake.mono _
      | exact ranges_Size.mono _ _
      | exact seqs_Of.mono _ _
      | exact LeO.none _
      | refine LeO.ite ?_ ?_
      | refine LeO.bind ?_ (fun _ => ?_)
    · intro y0 y1 y2 y3 y4 y5
      unfold exegetelaw03_SeqsBytes.l1
      repeat' first
      | (with_reducible exact ih0 _ _ _)
      | (with_reducible exact ih1 _ _ _ _)
      | (with_reducible exact ih2 _ _ _ _ _)
      | (with_reducible exact ih3 _ _ _ _ _ _)
      | (with_reducible exact exegetelaw03_awake.mono _)
      | (with_reducible exact ranges_Size.mono _ _)
      | (with_reducible exact seqs_Of.mono _ _)
      | (with_reducible exact LeO.refl _)
      | (with_reducible exact LeO.none _)
      | (with_reducible refine LeO.ite ?_ ?_)
      | (with_reducible refine LeO.bind ?_ (fun _ => ?_))
      | exact ih0 _ _ _
      | exact ih1 _ _ _ _
      | exact ih2 _ _ _ _ _
      | exact ih3 _ _ _ _ _ _
      | exact exegetelaw03_awake.mono _
      | exact ranges_Size.mono _ _
      | exact seqs_Of.mono _ _
      | exact LeO.none _
      | refine LeO.ite ?_ ?_
      | refine LeO.bind ?_ (fun _ => ?_)
theorem exegetelaw03_SeqsBytes.mono : ∀ a0 k, LeO (exegetelaw03_SeqsBytes.f k a0) (exegetelaw03_SeqsBytes.f (k + 1) a0) := by
  intro a0 k
  obtain ⟨ih0, ih1, ih2, ih3⟩ := exegetelaw03_SeqsBytes.mono_l k
  unfold exegetelaw03_SeqsBytes.f
  repeat' first
      | (with_reducible exact ih0 _ _ _)
      | (with_reducible exact ih1 _ _ _ _)
      | (with_reducible exact ih2 _ _ _ _ _)
      | (with_reducible exact ih3 _ _ _ _ _ _)
      | (with_reducible exact exegetelaw03_awake.mono _)
      | (with_reducible exact ranges_Size.mono _ _)
      | (with_reducible exact seqs_Of.mono _ _)
      | (with_reducible exact LeO.refl _)
      | (with_reducible exact LeO.none _)
      | (with_reducible refine LeO.ite ?_ ?_)
      | (with_reducible refine LeO.bind ?_ (fun _ => ?_))
      | exact ih0 _ _ _
      | exact ih1 _ _ _ _
      | exact ih2 _ _ _ _ _
      | exact ih3 _ _ _ _ _ _
      | exact exegetelaw03_awake.mono _
      | exact ranges_Size.mono _ _
      | exact seqs_Of.mono _ _
      | exact LeO.none _
      | refine LeO.ite ?_ ?_
      | refine LeO.bind ?_ (fun _ => ?_)
set_option maxHeartbeats 8000000 in
set_option maxRecDepth 100000 in
theorem exegetelaw03_SeqsBytes.calls (k : Nat) (A0 : Option Addr) (c0 : Nat) (l0 : List (S35)) (r : Bool) (w : World) (hr0 : Kd.C k35 w A0 l0.length l0) (hc0 : l0.length ≤ c0) (h : exegetelaw03_SeqsBytes.f k l0 = some r) :
    Calls Try.prog 6 #[.slice A0 l0.length c0] w fun e w' => e = .returned (.bool r) ∧ Below w.heap.size w w' := by
  have hu35 := Try.underlying35
  have HR0 := Aside0.mk hr0
  have HC0 := Aside0.mk hc0
  clear hr0 hc0
  have HB := Aside0.mk (Below.refl w.heap.size w)
  have H : ((exegetelaw03_awake.f k).bind fun t196 => (if t196 = true then (exegetelaw03_SeqsBytes.j0 k l0 t196 (decide ((l0.length : Int) > 20))) else (exegetelaw03_SeqsBytes.j0 k l0 t196 true))) = some r := h
  clear h
  replace H := Option.bind_eq_some_iff.mp H
  obtain ⟨t196, A20, H⟩ := H
  replace H : (if t196 = true then (exegetelaw03_SeqsBytes.j0 k l0 t196 (decide ((l0.length : Int) > 20))) else (exegetelaw03_SeqsBytes.j0 k l0 t196 true)) = some r := H
  have A2 := Aside0.mk A20
  clear A20
  have HC3 := Aside0.mk H
  clear H
  go_enter Try.func6, Try.ntmps6
  go_upto_region 2 with (first | (go_at_call 14; (with_reducible refine (exegetelaw03_awake.calls k  t196 _ A2.out).mono ?_); rintro e w4 ⟨rfl, hb⟩; have n0_ := Aside0.mk (below_step (by repeat (first | (with_reducible first | exact HB.out | apply below_alloc | apply pw_below_drewN | apply below_drew1) | exact HB.out)) hb); clear HB; have HB := n0_; clear n0_; (try clear hb); (try clear hb2); (try clear hk); (try clear hi)))
  repeat (go_quiet (first | (go_at_call 14; (with_reducible refine (exegetelaw03_awake.calls k  t196 _ A2.out).mono ?_); rintro e w4 ⟨rfl, hb⟩; have n0_ := Aside0.mk (below_step (by repeat (first | (with_reducible first | exact HB.out | apply below_alloc | apply pw_below_drewN | apply below_drew1) | exact HB.out)) hb); clear HB; have HB := n0_; clear n0_; (try clear hb); (try clear hb2); (try clear hk); (try clear hi))); go_upto_region 2 with (first | (go_at_call 14; (with_reducible refine (exegetelaw03_awake.calls k  t196 _ A2.out).mono ?_); rintro e w4 ⟨rfl, hb⟩; have n0_ := Aside0.mk (below_step (by repeat (first | (with_reducible first | exact HB.out | apply below_alloc | apply pw_below_drewN | apply below_drew1) | exact HB.out)) hb); clear HB; have HB := n0_; clear n0_; (try clear hb); (try clear hb2); (try clear hk); (try clear hi))))
  (try simp only [Act.put, List.setIfInBounds_toArray, List.set_cons_zero, List.set_cons_succ])
  go_cut [16] (fun v16 wc => ∃ (kq : Nat) (x16_2 : Bool), v16 = .bool x16_2 ∧ Aside0 (exegetelaw03_SeqsBytes.j0 kq l0 t196 x16_2 = some r) ∧ Aside0 (kq ≤ k) ∧ Aside0 (Below w.heap.size w wc))
  case first =>
    have H := HC3.out
    clear HC3
    by_cases c5 : t196 = true
    · subst c5
      have H1 : (exegetelaw03_SeqsBytes.j0 k l0 true (decide ((l0.length : Int) > 20))) = some r := by rw [if_pos rfl] at H; exact H
      clear H
      have H := H1
      clear H1
      have H' := Aside0.mk H
      clear H
      go_wp2
      repeat (go_quiet (fail); try go_wp2)
      go_meet
      case rel => exact ⟨_, (decide ((l0.length : Int) > 20)), (by first | rfl | (simp; done) | (simp [*]; done) | (simp [*, bne]; done)), H', ⟨by first | omega | exact Nat.le_refl _⟩, ⟨by repeat (first | (with_reducible first | exact HB.out | apply below_alloc | apply pw_below_drewN | apply below_drew1) | exact HB.out)⟩⟩
    · replace c5 := Bool.eq_false_iff.mpr c5
      subst c5
      have H1 : (exegetelaw03_SeqsBytes.j0 k l0 false true) = some r := by rw [if_neg (show ¬ (false = true) by decide)] at H; exact H
      clear H
      have H := H1
      clear H1
      have H' := Aside0.mk H
      clear H
      go_wp2
      repeat (go_quiet (fail); try go_wp2)
      go_meet
      case rel => exact ⟨_, (true), (by first | rfl | (simp; done) | (simp [*]; done) | (simp [*, bne]; done)), H', ⟨by first | omega | exact Nat.le_refl _⟩, ⟨by repeat (first | (with_reducible first | exact HB.out | apply below_alloc | apply pw_below_drewN | apply below_drew1) | exact HB.out)⟩⟩
  case rest =>
    clear HC3
    try clear p2
    try clear c5
    obtain ⟨kq, x16_2, rfl, HA, HJ2, HB⟩ := hcut
    cases kq with
    | zero => exact absurd HA.out (by simp [exegetelaw03_SeqsBytes.j0])
    | succ kj2 =>
      have H := HA.out
      clear HA
      simp only [exegetelaw03_SeqsBytes.j0] at H
      by_cases c6 : x16_2 = true
      · subst c6
        have H1 : (some t196) = some r := by rw [if_pos rfl] at H; exact H
        clear H
        have H := H1
        clear H1
        obtain rfl := Option.some.inj H
        go_wp2
        repeat (go_quiet (fail); try go_wp2)
        go_ret
        exact ⟨by first | rfl | (simp [errW_none, errW_some] <;> rfl) | (simp [*, errW_none, errW_some] <;> rfl), by repeat (first | (with_reducible first | exact HB.out | apply below_alloc | apply pw_below_drewN | apply below_drew1) | exact HB.out)⟩
      · replace c6 := Bool.eq_false_iff.mpr c6
        subst c6
        have H1 : ((seqs_Of.f kj2 l0).bind fun t197 => (exegetelaw03_SeqsBytes.l0 kj2 l0 t197 0 0)) = some r := by rw [if_neg (show ¬ (false = true) by decide)] at H; exact H
        clear H
        have H := H1
        clear H1
        replace H := Option.bind_eq_some_iff.mp H
        obtain ⟨t197, A70, H⟩ := H
        replace H : (exegetelaw03_SeqsBytes.l0 kj2 l0 t197 0 0) = some r := H
        have A7 := Aside0.mk A70
        clear A70
        have H' := Aside0.mk H
        clear H
        go_wp2_with (first | (go_at_call 16; (with_reducible refine (seqs_Of.calls kj2 _ _ l0 t197 _ ?side1 ?side2 A7.out).mono ?_); (case side1 => repeat (first | exact (Kd.C_below HR0.out HB.out) | (with_reducible refine Kd.C_alloc ?_ _) | (with_reducible refine Kd.C_drewN ?_ _) | (with_reducible refine Kd.C_drew ?_))); (case side2 => exact HC0.out); rintro e w8 ⟨v198, rfl, ho0, hb⟩; have n0_ := Aside0.mk (Kd.S_lower ho0 (below_size (by repeat (first | (with_reducible first | exact HB.out | apply below_alloc | apply pw_below_drewN | apply below_drew1) | exact HB.out)))); have n1_ := Aside0.mk (below_step (by repeat (first | (with_reducible first | exact HB.out | apply below_alloc | apply pw_below_drewN | apply below_drew1) | exact HB.out)) hb); clear HB; have HO199 := n0_; have HB := n1_; clear n0_ n1_; (try clear hb); (try clear hb2); (try clear hk); (try clear hi); (try clear ho0)))
        repeat (go_quiet (first | (go_at_call 16; (with_reducible refine (seqs_Of.calls kj2 _ _ l0 t197 _ ?side1 ?side2 A7.out).mono ?_); (case side1 => repeat (first | exact (Kd.C_below HR0.out HB.out) | (with_reducible refine Kd.C_alloc ?_ _) | (with_reducible refine Kd.C_drewN ?_ _) | (with_reducible refine Kd.C_drew ?_))); (case side2 => exact HC0.out); rintro e w8 ⟨v198, rfl, ho0, hb⟩; have n0_ := Aside0.mk (Kd.S_lower ho0 (below_size (by repeat (first | (with_reducible first | exact HB.out | apply below_alloc | apply pw_below_drewN | apply below_drew1) | exact HB.out)))); have n1_ := Aside0.mk (below_step (by repeat (first | (with_reducible first | exact HB.out | apply below_alloc | apply pw_below_drewN | apply below_drew1) | exact HB.out)) hb); clear HB; have HO199 := n0_; have HB := n1_; clear n0_ n1_; (try clear hb); (try clear hb2); (try clear hk); (try clear hi); (try clear ho0))); try go_wp2_with (first | (go_at_call 16; (with_reducible refine (seqs_Of.calls kj2 _ _ l0 t197 _ ?side1 ?side2 A7.out).mono ?_); (case side1 => repeat (first | exact (Kd.C_below HR0.out HB.out) | (with_reducible refine Kd.C_alloc ?_ _) | (with_reducible refine Kd.C_drewN ?_ _) | (with_reducible refine Kd.C_drew ?_))); (case side2 => exact HC0.out); rintro e w8 ⟨v198, rfl, ho0, hb⟩; have n0_ := Aside0.mk (Kd.S_lower ho0 (below_size (by repeat (first | (with_reducible first | exact HB.out | apply below_alloc | apply pw_below_drewN | apply below_drew1) | exact HB.out)))); have n1_ := Aside0.mk (below_step (by repeat (first | (with_reducible first | exact HB.out | apply below_alloc | apply pw_below_drewN | apply below_drew1) | exact HB.out)) hb); clear HB; have HO199 := n0_; have HB := n1_; clear n0_ n1_; (try clear hb); (try clear hb2); (try clear hk); (try clear hi); (try clear ho0))))
        go_loopg [5, 6] kj2 (fun kq v5 v6 w' => ∃ (x5_2 : Int) (x6_2 : Int), v5 = .int .i64 x5_2 ∧ v6 = .int .i64 x6_2 ∧ Aside0 (exegetelaw03_SeqsBytes.l0 kq l0 t197 x5_2 x6_2 = some r) ∧ Aside0 (kq ≤ kj2) ∧ Aside0 (Kd.S (Kd.slice 35 k35) 22 w' w.heap.size (fun _ => True) v198 t197) ∧ Aside0 (Below w.heap.size w w'))
        case atStart => exact ⟨(0), (0), (by first | rfl | (simp; done) | (simp [*]; done) | (simp [*, bne]; done)), (by first | rfl | (simp; done) | (simp [*]; done) | (simp [*, bne]; done)), H', ⟨Nat.le_refl _⟩, ⟨by (with_reducible repeat (first | apply Kd.S_alloc | apply Kd.S_drewN | apply Kd.S_drew)); exact HO199.out⟩, ⟨by repeat (first | (with_reducible first | exact HB.out | apply below_alloc | apply pw_below_drewN | apply below_drew1) | exact HB.out)⟩⟩
        case round =>
          clear H'
          try clear p2
          try clear c5
          try clear c6
          try clear p2
          obtain ⟨x5_2, x6_2, rfl, rfl, HA, HK2, HO_4, HB⟩ := hrel
          cases gk with
          | zero => exact absurd HA.out (by simp [exegetelaw03_SeqsBytes.l0])
          | succ k2 =>
            have H := HA.out
            clear HA
            simp only [exegetelaw03_SeqsBytes.l0] at H
            by_cases c9 : x6_2 < (t197.length : Int)
            · rw [if_pos c9] at H
              have c9b0 : decide (x6_2 < (t197.length : Int)) = true := decide_eq_true c9
              clear c9
              have HC10 := Aside0.mk H
              clear H
              obtain ⟨Ao11, co11, eo11⟩ := Kd.S_slice HO_4.out
              subst eo11
              go_upto_region 9 with (fail)
              repeat (go_quiet (fail); go_upto_region 9 with (fail))
              go_cut [39] (fun v39 wc => ∃ (kq : Nat) (x39_9 : Bool), v39 = .bool x39_9 ∧ Aside0 (exegetelaw03_SeqsBytes.j2 kq l0 t197 x5_2 x6_2 x39_9 = some r) ∧ Aside0 (kq ≤ k2) ∧ Aside0 (Kd.S (Kd.slice 35 k35) 22 wc w.heap.size (fun _ => True) (.slice Ao11 t197.length co11) t197) ∧ Aside0 (Below w.heap.size w wc))
              case first =>
                have H := HC10.out
                clear HC10
                by_cases c12 : 0 ≤ x6_2
                · rw [if_pos c12] at H
                  have c12b0 : decide (0 ≤ x6_2) = true := decide_eq_true c12
                  clear c12
                  (first | rw [c12b0] | (simp only [i64_w, i32_w]; rw [c12b0]) | skip)
                  by_cases c13 : ((rd_L2 t197 x6_2).length : Int) < 1
                  · rw [if_pos c13] at H
                    have c13b0 : decide (((rd_L2 t197 x6_2).length : Int) < 1) = true := decide_eq_true c13
                    have c13b1 : decide ((rd_L2 t197 x6_2).length < 1) = true := decide_eq_true (by omega)
                    clear c13
                    have H' := Aside0.mk H
                    clear H
                    have p207 : 0 ≤ (x6_2 : Int) := of_decide_eq_true (by first | (with_reducible assumption) | assumption)
                    have q207 : x6_2 < (t197.length : Int) := of_decide_eq_true (by first | (with_reducible assumption) | assumption)
                    obtain ⟨ad207, A207_0, c207_0, e207, hx207_0, hl207_0, hi207_0⟩ := at_L2 (Kd.S_reads' HO_4.out).2.2 x6_2 p207 q207
                    cases e207
                    obtain ⟨ce207, hce207, hMe207, hcc207⟩ := Kd.S_get HO_4.out [] x6_2 p207 (by first | exact q207 | exact of_decide_eq_true (by first | (with_reducible assumption) | assumption) | (have e_ := (Kd.S_reads' HO_4.out).1; omega))
                    obtain ⟨ve207_0, rfl, ge207_0⟩ := hMe207
                    have hv207_0 := hcc207 0 _ rfl
                    rw [Nat.add_zero, show ((Kd.slice 35 k35)).sz = 1 from rfl, Nat.mul_one] at hv207_0
                    replace hv207_0 := Option.some.inj (hv207_0.symm.trans hx207_0)
                    rw [hv207_0] at ge207_0
                    have HL207_0 := Aside0.mk (show Kd.R k35 35 _ _ _ _ (rd_L2 t197 x6_2) from ge207_0)
                    clear hv207_0 ge207_0
                    clear hcc207 hce207
                    have HR207_0 := Aside0.mk hi207_0
                    have HC207_0 := Aside0.mk hl207_0
                    clear hi207_0 hl207_0
                    replace p207 := eq_true p207
                    replace q207 := eq_true q207
                    go_wp2
                    repeat (go_quiet (fail); try go_wp2)
                    go_meet
                    case rel => exact ⟨_, (true), (by first | rfl | (simp; done) | (simp [*]; done) | (simp [*, bne]; done)), H', ⟨by have := HJ2.out; have := HK2.out; first | omega | exact Nat.le_refl _⟩, ⟨by (with_reducible repeat (first | apply Kd.S_alloc | apply Kd.S_drewN | apply Kd.S_drew)); exact HO_4.out⟩, ⟨by repeat (first | (with_reducible first | exact HB.out | apply below_alloc | apply pw_below_drewN | apply below_drew1) | exact HB.out)⟩⟩
                  · rw [if_neg c13] at H
                    have c13b0 : decide (((rd_L2 t197 x6_2).length : Int) < 1) = false := decide_eq_false c13
                    have c13b1 : decide ((rd_L2 t197 x6_2).length < 1) = false := decide_eq_false (by omega)
                    clear c13
                    have H' := Aside0.mk H
                    clear H
                    have p207 : 0 ≤ (x6_2 : Int) := of_decide_eq_true (by first | (with_reducible assumption) | assumption)
                    have q207 : x6_2 < (t197.length : Int) := of_decide_eq_true (by first | (with_reducible assumption) | assumption)
                    obtain ⟨ad207, A207_0, c207_0, e207, hx207_0, hl207_0, hi207_0⟩ := at_L2 (Kd.S_reads' HO_4.out).2.2 x6_2 p207 q207
                    cases e207
                    obtain ⟨ce207, hce207, hMe207, hcc207⟩ := Kd.S_get HO_4.out [] x6_2 p207 (by first | exact q207 | exact of_decide_eq_true (by first | (with_reducible assumption) | assumption) | (have e_ := (Kd.S_reads' HO_4.out).1; omega))
                    obtain ⟨ve207_0, rfl, ge207_0⟩ := hMe207
                    have hv207_0 := hcc207 0 _ rfl
                    rw [Nat.add_zero, show ((Kd.slice 35 k35)).sz = 1 from rfl, Nat.mul_one] at hv207_0
                    replace hv207_0 := Option.some.inj (hv207_0.symm.trans hx207_0)
                    rw [hv207_0] at ge207_0
                    have HL207_0 := Aside0.mk (show Kd.R k35 35 _ _ _ _ (rd_L2 t197 x6_2) from ge207_0)
                    clear hv207_0 ge207_0
                    clear hcc207 hce207
                    have HR207_0 := Aside0.mk hi207_0
                    have HC207_0 := Aside0.mk hl207_0
                    clear hi207_0 hl207_0
                    replace p207 := eq_true p207
                    replace q207 := eq_true q207
                    have p208 : 0 ≤ (x6_2 : Int) := of_decide_eq_true (by first | (with_reducible assumption) | assumption)
                    have q208 : x6_2 < (t197.length : Int) := of_decide_eq_true (by first | (with_reducible assumption) | assumption)
                    obtain ⟨ad208, A208_0, c208_0, e208, hx208_0, hl208_0, hi208_0⟩ := at_L2 (Kd.S_reads' HO_4.out).2.2 x6_2 p208 q208
                    obtain rfl : ad207 = ad208 := (by injection e208)
                    obtain ⟨ce208, hce208, hMe208, hcc208⟩ := Kd.S_get HO_4.out [] x6_2 p208 (by first | exact q208 | exact of_decide_eq_true (by first | (with_reducible assumption) | assumption) | (have e_ := (Kd.S_reads' HO_4.out).1; omega))
                    obtain ⟨ve208_0, rfl, ge208_0⟩ := hMe208
                    have hv208_0 := hcc208 0 _ rfl
                    rw [Nat.add_zero, show ((Kd.slice 35 k35)).sz = 1 from rfl, Nat.mul_one] at hv208_0
                    replace hv208_0 := Option.some.inj (hv208_0.symm.trans hx208_0)
                    rw [hv208_0] at ge208_0
                    have HL208_0 := Aside0.mk (show Kd.R k35 35 _ _ _ _ (rd_L2 t197 x6_2) from ge208_0)
                    clear hv208_0 ge208_0
                    clear hcc208 hce208
                    have HR208_0 := Aside0.mk hi208_0
                    have HC208_0 := Aside0.mk hl208_0
                    clear hi208_0 hl208_0
                    replace p208 := eq_true p208
                    replace q208 := eq_true q208
                    have ea_ := Option.some.inj (hx207_0.symm.trans hx208_0)
                    injection ea_ with ea_ en_ ec_
                    subst ea_
                    subst ec_
                    clear en_
                    go_wp2
                    repeat (go_quiet (fail); try go_wp2)
                    go_meet
                    case rel => exact ⟨_, (decide (((rd_L2 t197 x6_2).length : Int) > 4)), (by first | rfl | (simp; done) | (simp [*]; done) | (simp [*, bne]; done)), H', ⟨by have := HJ2.out; have := HK2.out; first | omega | exact Nat.le_refl _⟩, ⟨by (with_reducible repeat (first | apply Kd.S_alloc | apply Kd.S_drewN | apply Kd.S_drew)); exact HO_4.out⟩, ⟨by repeat (first | (with_reducible first | exact HB.out | apply below_alloc | apply pw_below_drewN | apply below_drew1) | exact HB.out)⟩⟩
                · rw [if_neg c12] at H
                  exact absurd H (by simp)
              case rest =>
                clear HC10
                try clear c1
                try clear c2
                try clear p2
                try clear q2
                try clear hx2
                try clear c5
                try clear c6
                try clear c9
                try clear c9b0
                try clear c12
                try clear c12b0
                try clear c13
                try clear c13b0
                try clear c13b1
                try clear hx207_0
                try clear hx208_0
                try clear p2
                try clear p207
                try clear p208
                try clear q207
                try clear q208
                obtain ⟨kq, x39_9, rfl, HA, HJ9, HO_4, HB⟩ := hcut
                cases kq with
                | zero => exact absurd HA.out (by simp [exegetelaw03_SeqsBytes.j2])
                | succ kj9 =>
                  have H := HA.out
                  clear HA
                  simp only [exegetelaw03_SeqsBytes.j2] at H
                  by_cases c14 : x39_9 = true
                  · subst c14
                    have H1 : (some false) = some r := by rw [if_pos rfl] at H; exact H
                    clear H
                    have H := H1
                    clear H1
                    obtain rfl := Option.some.inj H
                    go_wp2
                    repeat (go_quiet (fail); try go_wp2)
                    go_ret
                    exact ⟨by first | rfl | (simp [errW_none, errW_some] <;> rfl) | (simp [*, errW_none, errW_some] <;> rfl), by repeat (first | (with_reducible first | exact HB.out | apply below_alloc | apply pw_below_drewN | apply below_drew1) | exact HB.out)⟩
                  · replace c14 := Bool.eq_false_iff.mpr c14
                    subst c14
                    have H1 : (exegetelaw03_SeqsBytes.l1 kj9 l0 t197 x5_2 x6_2 1 0) = some r := by rw [if_neg (show ¬ (false = true) by decide)] at H; exact H
                    clear H
                    have H := H1
                    clear H1
                    have H' := Aside0.mk H
                    clear H
                    go_wp2
                    repeat (go_quiet (fail); try go_wp2)
                    go_loopg [7, 8] kj9 (fun kq v7 v8 w' => ∃ (x7_4 : Int) (x8_4 : Int), v7 = .int .i64 x7_4 ∧ v8 = .int .i64 x8_4 ∧ Aside0 (exegetelaw03_SeqsBytes.l1 kq l0 t197 x5_2 x6_2 x7_4 x8_4 = some r) ∧ Aside0 (kq ≤ kj9) ∧ Aside0 (Kd.S (Kd.slice 35 k35) 22 w' w.heap.size (fun _ => True) (.slice Ao11 t197.length co11) t197) ∧ Aside0 (Below w.heap.size w w'))
                    case atStart => exact ⟨(1), (0), (by first | rfl | (simp; done) | (simp [*]; done) | (simp [*, bne]; done)), (by first | rfl | (simp; done) | (simp [*]; done) | (simp [*, bne]; done)), H', ⟨Nat.le_refl _⟩, ⟨by (with_reducible repeat (first | apply Kd.S_alloc | apply Kd.S_drewN | apply Kd.S_drew)); exact HO_4.out⟩, ⟨by repeat (first | (with_reducible first | exact HB.out | apply below_alloc | apply pw_below_drewN | apply below_drew1) | exact HB.out)⟩⟩
                    case round =>
                      clear H'
                      try clear c1
                      try clear c2
                      try clear p2
                      try clear q2
                      try clear hx2
                      try clear c5
                      try clear c6
                      try clear c9
                      try clear c9b0
                      try clear c12
                      try clear c12b0
                      try clear c13
                      try clear c13b0
                      try clear c13b1
                      try clear c14
                      try clear hx207_0
                      try clear hx208_0
                      try clear p2
                      try clear p207
                      try clear p208
                      try clear q2
                      try clear q207
                      try clear q208
                      obtain ⟨x7_4, x8_4, rfl, rfl, HA, HK4, HO_4, HB⟩ := hrel
                      cases gk with
                      | zero => exact absurd HA.out (by simp [exegetelaw03_SeqsBytes.l1])
                      | succ k4 =>
                        have H := HA.out
                        clear HA
                        simp only [exegetelaw03_SeqsBytes.l1] at H
                        by_cases c15 : 0 ≤ x6_2
                        · rw [if_pos c15] at H
                          have c15b0 : decide (0 ≤ x6_2) = true := decide_eq_true c15
                          clear c15
                          by_cases c16 : x6_2 < (t197.length : Int)
                          · rw [if_pos c16] at H
                            have c16b0 : decide (x6_2 < (t197.length : Int)) = true := decide_eq_true c16
                            clear c16
                            by_cases c17 : x8_4 < ((rd_L2 t197 x6_2).length : Int)
                            · rw [if_pos c17] at H
                              have c17b0 : decide (x8_4 < ((rd_L2 t197 x6_2).length : Int)) = true := decide_eq_true c17
                              clear c17
                              by_cases c18 : 0 ≤ x8_4
                              · rw [if_pos c18] at H
                                have c18b0 : decide (0 ≤ x8_4) = true := decide_eq_true c18
                                clear c18
                                by_cases c19 : ((rd_T35 (rd_L2 t197 x6_2) x8_4).f0) < 0
                                · rw [if_pos c19] at H
                                  have c19b0 : decide (((rd_T35 (rd_L2 t197 x6_2) x8_4).f0) < 0) = true := decide_eq_true c19
                                  clear c19
                                  obtain rfl := Option.some.inj H
                                  have p209 : 0 ≤ (x6_2 : Int) := of_decide_eq_true (by first | (with_reducible assumption) | assumption)
                                  have q209 : x6_2 < (t197.length : Int) := of_decide_eq_true (by first | (with_reducible assumption) | assumption)
                                  obtain ⟨ad209, A209_0, c209_0, e209, hx209_0, hl209_0, hi209_0⟩ := at_L2 (Kd.S_reads' HO_4.out).2.2 x6_2 p209 q209
                                  cases e209
                                  obtain ⟨ce209, hce209, hMe209, hcc209⟩ := Kd.S_get HO_4.out [] x6_2 p209 (by first | exact q209 | exact of_decide_eq_true (by first | (with_reducible assumption) | assumption) | (have e_ := (Kd.S_reads' HO_4.out).1; omega))
                                  obtain ⟨ve209_0, rfl, ge209_0⟩ := hMe209
                                  have hv209_0 := hcc209 0 _ rfl
                                  rw [Nat.add_zero, show ((Kd.slice 35 k35)).sz = 1 from rfl, Nat.mul_one] at hv209_0
                                  replace hv209_0 := Option.some.inj (hv209_0.symm.trans hx209_0)
                                  rw [hv209_0] at ge209_0
                                  have HL209_0 := Aside0.mk (show Kd.R k35 35 _ _ _ _ (rd_L2 t197 x6_2) from ge209_0)
                                  clear hv209_0 ge209_0
                                  clear hcc209 hce209
                                  have HR209_0 := Aside0.mk hi209_0
                                  have HC209_0 := Aside0.mk hl209_0
                                  clear hi209_0 hl209_0
                                  replace p209 := eq_true p209
                                  replace q209 := eq_true q209
                                  have p210 : 0 ≤ (x6_2 : Int) := of_decide_eq_true (by first | (with_reducible assumption) | assumption)
                                  have q210 : x6_2 < (t197.length : Int) := of_decide_eq_true (by first | (with_reducible assumption) | assumption)
                                  obtain ⟨ad210, A210_0, c210_0, e210, hx210_0, hl210_0, hi210_0⟩ := at_L2 (Kd.S_reads' HO_4.out).2.2 x6_2 p210 q210
                                  obtain rfl : ad209 = ad210 := (by injection e210)
                                  obtain ⟨ce210, hce210, hMe210, hcc210⟩ := Kd.S_get HO_4.out [] x6_2 p210 (by first | exact q210 | exact of_decide_eq_true (by first | (with_reducible assumption) | assumption) | (have e_ := (Kd.S_reads' HO_4.out).1; omega))
                                  obtain ⟨ve210_0, rfl, ge210_0⟩ := hMe210
                                  have hv210_0 := hcc210 0 _ rfl
                                  rw [Nat.add_zero, show ((Kd.slice 35 k35)).sz = 1 from rfl, Nat.mul_one] at hv210_0
                                  replace hv210_0 := Option.some.inj (hv210_0.symm.trans hx210_0)
                                  rw [hv210_0] at ge210_0
                                  have HL210_0 := Aside0.mk (show Kd.R k35 35 _ _ _ _ (rd_L2 t197 x6_2) from ge210_0)
                                  clear hv210_0 ge210_0
                                  clear hcc210 hce210
                                  have HR210_0 := Aside0.mk hi210_0
                                  have HC210_0 := Aside0.mk hl210_0
                                  clear hi210_0 hl210_0
                                  replace p210 := eq_true p210
                                  replace q210 := eq_true q210
                                  have ea_ := Option.some.inj (hx209_0.symm.trans hx210_0)
                                  injection ea_ with ea_ en_ ec_
                                  subst ea_
                                  subst ec_
                                  clear en_
                                  have p211 : 0 ≤ (x8_4 : Int) := of_decide_eq_true (by first | (with_reducible assumption) | assumption)
                                  have q211 : x8_4 < ((rd_L2 t197 x6_2).length : Int) := of_decide_eq_true (by first | (with_reducible assumption) | assumption)
                                  obtain ⟨ad211, e211, hx211_0, hx211_1⟩ := at_T35 (by repeat (first | (with_reducible exact HR210_0.out) | (with_reducible refine Kd.C_alloc ?_ _) | (with_reducible refine Kd.C_drewN ?_ _) | (with_reducible refine Kd.C_drew ?_) | exact HR210_0.out)) x8_4 p211 q211
                                  cases e211
                                  replace p211 := eq_true p211
                                  replace q211 := eq_true q211
                                  go_wp2
                                  repeat (go_quiet (fail); try go_wp2)
                                  go_ret
                                  exact ⟨by first | rfl | (simp [errW_none, errW_some] <;> rfl) | (simp [*, errW_none, errW_some] <;> rfl), by repeat (first | (with_reducible first | exact HB.out | apply below_alloc | apply pw_below_drewN | apply below_drew1) | exact HB.out)⟩
                                · rw [if_neg c19] at H
                                  have c19b0 : decide (((rd_T35 (rd_L2 t197 x6_2) x8_4).f0) < 0) = false := decide_eq_false c19
                                  clear c19
                                  by_cases c20 : ((rd_T35 (rd_L2 t197 x6_2) x8_4).f0) > ((rd_T35 (rd_L2 t197 x6_2) x8_4).f1)
                                  · rw [if_pos c20] at H
                                    have c20b0 : decide (((rd_T35 (rd_L2 t197 x6_2) x8_4).f1) < ((rd_T35 (rd_L2 t197 x6_2) x8_4).f0)) = true := decide_eq_true c20
                                    clear c20
                                    obtain rfl := Option.some.inj H
                                    have p209 : 0 ≤ (x6_2 : Int) := of_decide_eq_true (by first | (with_reducible assumption) | assumption)
                                    have q209 : x6_2 < (t197.length : Int) := of_decide_eq_true (by first | (with_reducible assumption) | assumption)
                                    obtain ⟨ad209, A209_0, c209_0, e209, hx209_0, hl209_0, hi209_0⟩ := at_L2 (Kd.S_reads' HO_4.out).2.2 x6_2 p209 q209
                                    cases e209
                                    obtain ⟨ce209, hce209, hMe209, hcc209⟩ := Kd.S_get HO_4.out [] x6_2 p209 (by first | exact q209 | exact of_decide_eq_true (by first | (with_reducible assumption) | assumption) | (have e_ := (Kd.S_reads' HO_4.out).1; omega))
                                    obtain ⟨ve209_0, rfl, ge209_0⟩ := hMe209
                                    have hv209_0 := hcc209 0 _ rfl
                                    rw [Nat.add_zero, show ((Kd.slice 35 k35)).sz = 1 from rfl, Nat.mul_one] at hv209_0
                                    replace hv209_0 := Option.some.inj (hv209_0.symm.trans hx209_0)
                                    rw [hv209_0] at ge209_0
                                    have HL209_0 := Aside0.mk (show Kd.R k35 35 _ _ _ _ (rd_L2 t197 x6_2) from ge209_0)
                                    clear hv209_0 ge209_0
                                    clear hcc209 hce209
                                    have HR209_0 := Aside0.mk hi209_0
                                    have HC209_0 := Aside0.mk hl209_0
                                    clear hi209_0 hl209_0
                                    replace p209 := eq_true p209
                                    replace q209 := eq_true q209
                                    have p210 : 0 ≤ (x6_2 : Int) := of_decide_eq_true (by first | (with_reducible assumption) | assumption)
                                    have q210 : x6_2 < (t197.length : Int) := of_decide_eq_true (by first | (with_reducible assumption) | assumption)
                                    obtain ⟨ad210, A210_0, c210_0, e210, hx210_0, hl210_0, hi210_0⟩ := at_L2 (Kd.S_reads' HO_4.out).2.2 x6_2 p210 q210
                                    obtain rfl : ad209 = ad210 := (by injection e210)
                                    obtain ⟨ce210, hce210, hMe210, hcc210⟩ := Kd.S_get HO_4.out [] x6_2 p210 (by first | exact q210 | exact of_decide_eq_true (by first | (with_reducible assumption) | assumption) | (have e_ := (Kd.S_reads' HO_4.out).1; omega))
                                    obtain ⟨ve210_0, rfl, ge210_0⟩ := hMe210
                                    have hv210_0 := hcc210 0 _ rfl
                                    rw [Nat.add_zero, show ((Kd.slice 35 k35)).sz = 1 from rfl, Nat.mul_one] at hv210_0
                                    replace hv210_0 := Option.some.inj (hv210_0.symm.trans hx210_0)
                                    rw [hv210_0] at ge210_0
                                    have HL210_0 := Aside0.mk (show Kd.R k35 35 _ _ _ _ (rd_L2 t197 x6_2) from ge210_0)
                                    clear hv210_0 ge210_0
                                    clear hcc210 hce210
                                    have HR210_0 := Aside0.mk hi210_0
                                    have HC210_0 := Aside0.mk hl210_0
                                    clear hi210_0 hl210_0
                                    replace p210 := eq_true p210
                                    replace q210 := eq_true q210
                                    have ea_ := Option.some.inj (hx209_0.symm.trans hx210_0)
                                    injection ea_ with ea_ en_ ec_
                                    subst ea_
                                    subst ec_
                                    clear en_
                                    have p211 : 0 ≤ (x8_4 : Int) := of_decide_eq_true (by first | (with_reducible assumption) | assumption)
                                    have q211 : x8_4 < ((rd_L2 t197 x6_2).length : Int) := of_decide_eq_true (by first | (with_reducible assumption) | assumption)
                                    obtain ⟨ad211, e211, hx211_0, hx211_1⟩ := at_T35 (by repeat (first | (with_reducible exact HR210_0.out) | (with_reducible refine Kd.C_alloc ?_ _) | (with_reducible refine Kd.C_drewN ?_ _) | (with_reducible refine Kd.C_drew ?_) | exact HR210_0.out)) x8_4 p211 q211
                                    cases e211
                                    replace p211 := eq_true p211
                                    replace q211 := eq_true q211
                                    have p212 : 0 ≤ (x6_2 : Int) := of_decide_eq_true (by first | (with_reducible assumption) | assumption)
                                    have q212 : x6_2 < (t197.length : Int) := of_decide_eq_true (by first | (with_reducible assumption) | assumption)
                                    obtain ⟨ad212, A212_0, c212_0, e212, hx212_0, hl212_0, hi212_0⟩ := at_L2 (Kd.S_reads' HO_4.out).2.2 x6_2 p212 q212
                                    obtain rfl : ad209 = ad212 := (by injection e212)
                                    obtain ⟨ce212, hce212, hMe212, hcc212⟩ := Kd.S_get HO_4.out [] x6_2 p212 (by first | exact q212 | exact of_decide_eq_true (by first | (with_reducible assumption) | assumption) | (have e_ := (Kd.S_reads' HO_4.out).1; omega))
                                    obtain ⟨ve212_0, rfl, ge212_0⟩ := hMe212
                                    have hv212_0 := hcc212 0 _ rfl
                                    rw [Nat.add_zero, show ((Kd.slice 35 k35)).sz = 1 from rfl, Nat.mul_one] at hv212_0
                                    replace hv212_0 := Option.some.inj (hv212_0.symm.trans hx212_0)
                                    rw [hv212_0] at ge212_0
                                    have HL212_0 := Aside0.mk (show Kd.R k35 35 _ _ _ _ (rd_L2 t197 x6_2) from ge212_0)
                                    clear hv212_0 ge212_0
                                    clear hcc212 hce212
                                    have HR212_0 := Aside0.mk hi212_0
                                    have HC212_0 := Aside0.mk hl212_0
                                    clear hi212_0 hl212_0
                                    replace p212 := eq_true p212
                                    replace q212 := eq_true q212
                                    have ea_ := Option.some.inj (hx209_0.symm.trans hx212_0)
                                    injection ea_ with ea_ en_ ec_
                                    subst ea_
                                    subst ec_
                                    clear en_
                                    have p213 : 0 ≤ (x8_4 : Int) := of_decide_eq_true (by first | (with_reducible assumption) | assumption)
                                    have q213 : x8_4 < ((rd_L2 t197 x6_2).length : Int) := of_decide_eq_true (by first | (with_reducible assumption) | assumption)
                                    obtain ⟨ad213, e213, hx213_0, hx213_1⟩ := at_T35 (by repeat (first | (with_reducible exact HR212_0.out) | (with_reducible refine Kd.C_alloc ?_ _) | (with_reducible refine Kd.C_drewN ?_ _) | (with_reducible refine Kd.C_drew ?_) | exact HR212_0.out)) x8_4 p213 q213
                                    cases e213
                                    replace p213 := eq_true p213
                                    replace q213 := eq_true q213
                                    have p214 : 0 ≤ (x6_2 : Int) := of_decide_eq_true (by first | (with_reducible assumption) | assumption)
                                    have q214 : x6_2 < (t197.length : Int) := of_decide_eq_true (by first | (with_reducible assumption) | assumption)
                                    obtain ⟨ad214, A214_0, c214_0, e214, hx214_0, hl214_0, hi214_0⟩ := at_L2 (Kd.S_reads' HO_4.out).2.2 x6_2 p214 q214
                                    obtain rfl : ad209 = ad214 := (by injection e214)
                                    obtain ⟨ce214, hce214, hMe214, hcc214⟩ := Kd.S_get HO_4.out [] x6_2 p214 (by first | exact q214 | exact of_decide_eq_true (by first | (with_reducible assumption) | assumption) | (have e_ := (Kd.S_reads' HO_4.out).1; omega))
                                    obtain ⟨ve214_0, rfl, ge214_0⟩ := hMe214
                                    have hv214_0 := hcc214 0 _ rfl
                                    rw [Nat.add_zero, show ((Kd.slice 35 k35)).sz = 1 from rfl, Nat.mul_one] at hv214_0
                                    replace hv214_0 := Option.some.inj (hv214_0.symm.trans hx214_0)
                                    rw [hv214_0] at ge214_0
                                    have HL214_0 := Aside0.mk (show Kd.R k35 35 _ _ _ _ (rd_L2 t197 x6_2) from ge214_0)
                                    clear hv214_0 ge214_0
                                    clear hcc214 hce214
                                    have HR214_0 := Aside0.mk hi214_0
                                    have HC214_0 := Aside0.mk hl214_0
                                    clear hi214_0 hl214_0
                                    replace p214 := eq_true p214
                                    replace q214 := eq_true q214
                                    have ea_ := Option.some.inj (hx209_0.symm.trans hx214_0)
                                    injection ea_ with ea_ en_ ec_
                                    subst ea_
                                    subst ec_
                                    clear en_
                                    have p215 : 0 ≤ (x8_4 : Int) := of_decide_eq_true (by first | (with_reducible assumption) | assumption)
                                    have q215 : x8_4 < ((rd_L2 t197 x6_2).length : Int) := of_decide_eq_true (by first | (with_reducible assumption) | assumption)
                                    obtain ⟨ad215, e215, hx215_0, hx215_1⟩ := at_T35 (by repeat (first | (with_reducible exact HR214_0.out) | (with_reducible refine Kd.C_alloc ?_ _) | (with_reducible refine Kd.C_drewN ?_ _) | (with_reducible refine Kd.C_drew ?_) | exact HR214_0.out)) x8_4 p215 q215
                                    cases e215
                                    replace p215 := eq_true p215
                                    replace q215 := eq_true q215
                                    go_wp2
                                    repeat (go_quiet (fail); try go_wp2)
                                    go_ret
                                    exact ⟨by first | rfl | (simp [errW_none, errW_some] <;> rfl) | (simp [*, errW_none, errW_some] <;> rfl), by repeat (first | (with_reducible first | exact HB.out | apply below_alloc | apply pw_below_drewN | apply below_drew1) | exact HB.out)⟩
                                  · rw [if_neg c20] at H
                                    have c20b0 : decide (((rd_T35 (rd_L2 t197 x6_2) x8_4).f1) < ((rd_T35 (rd_L2 t197 x6_2) x8_4).f0)) = false := decide_eq_false c20
                                    clear c20
                                    by_cases c21 : ((rd_T35 (rd_L2 t197 x6_2) x8_4).f1) > 255
                                    · rw [if_pos c21] at H
                                      have c21b0 : decide (255 < ((rd_T35 (rd_L2 t197 x6_2) x8_4).f1)) = true := decide_eq_true c21
                                      clear c21
                                      obtain rfl := Option.some.inj H
                                      have p209 : 0 ≤ (x6_2 : Int) := of_decide_eq_true (by first | (with_reducible assumption) | assumption)
                                      have q209 : x6_2 < (t197.length : Int) := of_decide_eq_true (by first | (with_reducible assumption) | assumption)
                                      obtain ⟨ad209, A209_0, c209_0, e209, hx209_0, hl209_0, hi209_0⟩ := at_L2 (Kd.S_reads' HO_4.out).2.2 x6_2 p209 q209
                                      cases e209
                                      obtain ⟨ce209, hce209, hMe209, hcc209⟩ := Kd.S_get HO_4.out [] x6_2 p209 (by first | exact q209 | exact of_decide_eq_true (by first | (with_reducible assumption) | assumption) | (have e_ := (Kd.S_reads' HO_4.out).1; omega))
                                      obtain ⟨ve209_0, rfl, ge209_0⟩ := hMe209
                                      have hv209_0 := hcc209 0 _ rfl
                                      rw [Nat.add_zero, show ((Kd.slice 35 k35)).sz = 1 from rfl, Nat.mul_one] at hv209_0
                                      replace hv209_0 := Option.some.inj (hv209_0.symm.trans hx209_0)
                                      rw [hv209_0] at ge209_0
                                      have HL209_0 := Aside0.mk (show Kd.R k35 35 _ _ _ _ (rd_L2 t197 x6_2) from ge209_0)
                                      clear hv209_0 ge209_0
                                      clear hcc209 hce209
                                      have HR209_0 := Aside0.mk hi209_0
                                      have HC209_0 := Aside0.mk hl209_0
                                      clear hi209_0 hl209_0
                                      replace p209 := eq_true p209
                                      replace q209 := eq_true q209
                                      have p210 : 0 ≤ (x6_2 : Int) := of_decide_eq_true (by first | (with_reducible assumption) | assumption)
                                      have q210 : x6_2 < (t197.length : Int) := of_decide_eq_true (by first | (with_reducible assumption) | assumption)
                                      obtain ⟨ad210, A210_0, c210_0, e210, hx210_0, hl210_0, hi210_0⟩ := at_L2 (Kd.S_reads' HO_4.out).2.2 x6_2 p210 q210
                                      obtain rfl : ad209 = ad210 := (by injection e210)
                                      obtain ⟨ce210, hce210, hMe210, hcc210⟩ := Kd.S_get HO_4.out [] x6_2 p210 (by first | exact q210 | exact of_decide_eq_true (by first | (with_reducible assumption) | assumption) | (have e_ := (Kd.S_reads' HO_4.out).1; omega))
                                      obtain ⟨ve210_0, rfl, ge210_0⟩ := hMe210
                                      have hv210_0 := hcc210 0 _ rfl
                                      rw [Nat.add_zero, show ((Kd.slice 35 k35)).sz = 1 from rfl, Nat.mul_one] at hv210_0
                                      replace hv210_0 := Option.some.inj (hv210_0.symm.trans hx210_0)
                                      rw [hv210_0] at ge210_0
                                      have HL210_0 := Aside0.mk (show Kd.R k35 35 _ _ _ _ (rd_L2 t197 x6_2) from ge210_0)
                                      clear hv210_0 ge210_0
                                      clear hcc210 hce210
                                      have HR210_0 := Aside0.mk hi210_0
                                      have HC210_0 := Aside0.mk hl210_0
                                      clear hi210_0 hl210_0
                                      replace p210 := eq_true p210
                                      replace q210 := eq_true q210
                                      have ea_ := Option.some.inj (hx209_0.symm.trans hx210_0)
                                      injection ea_ with ea_ en_ ec_
                                      subst ea_
                                      subst ec_
                                      clear en_
                                      have p211 : 0 ≤ (x8_4 : Int) := of_decide_eq_true (by first | (with_reducible assumption) | assumption)
                                      have q211 : x8_4 < ((rd_L2 t197 x6_2).length : Int) := of_decide_eq_true (by first | (with_reducible assumption) | assumption)
                                      obtain ⟨ad211, e211, hx211_0, hx211_1⟩ := at_T35 (by repeat (first | (with_reducible exact HR210_0.out) | (with_reducible refine Kd.C_alloc ?_ _) | (with_reducible refine Kd.C_drewN ?_ _) | (with_reducible refine Kd.C_drew ?_) | exact HR210_0.out)) x8_4 p211 q211
                                      cases e211
                                      replace p211 := eq_true p211
                                      replace q211 := eq_true q211
                                      have p212 : 0 ≤ (x6_2 : Int) := of_decide_eq_true (by first | (with_reducible assumption) | assumption)
                                      have q212 : x6_2 < (t197.length : Int) := of_decide_eq_true (by first | (with_reducible assumption) | assumption)
                                      obtain ⟨ad212, A212_0, c212_0, e212, hx212_0, hl212_0, hi212_0⟩ := at_L2 (Kd.S_reads' HO_4.out).2.2 x6_2 p212 q212
                                      obtain rfl : ad209 = ad212 := (by injection e212)
                                      obtain ⟨ce212, hce212, hMe212, hcc212⟩ := Kd.S_get HO_4.out [] x6_2 p212 (by first | exact q212 | exact of_decide_eq_true (by first | (with_reducible assumption) | assumption) | (have e_ := (Kd.S_reads' HO_4.out).1; omega))
                                      obtain ⟨ve212_0, rfl, ge212_0⟩ := hMe212
                                      have hv212_0 := hcc212 0 _ rfl
                                      rw [Nat.add_zero, show ((Kd.slice 35 k35)).sz = 1 from rfl, Nat.mul_one] at hv212_0
                                      replace hv212_0 := Option.some.inj (hv212_0.symm.trans hx212_0)
                                      rw [hv212_0] at ge212_0
                                      have HL212_0 := Aside0.mk (show Kd.R k35 35 _ _ _ _ (rd_L2 t197 x6_2) from ge212_0)
                                      clear hv212_0 ge212_0
                                      clear hcc212 hce212
                                      have HR212_0 := Aside0.mk hi212_0
                                      have HC212_0 := Aside0.mk hl212_0
                                      clear hi212_0 hl212_0
                                      replace p212 := eq_true p212
                                      replace q212 := eq_true q212
                                      have ea_ := Option.some.inj (hx209_0.symm.trans hx212_0)
                                      injection ea_ with ea_ en_ ec_
                                      subst ea_
                                      subst ec_
                                      clear en_
                                      have p213 : 0 ≤ (x8_4 : Int) := of_decide_eq_true (by first | (with_reducible assumption) | assumption)
                                      have q213 : x8_4 < ((rd_L2 t197 x6_2).length : Int) := of_decide_eq_true (by first | (with_reducible assumption) | assumption)
                                      obtain ⟨ad213, e213, hx213_0, hx213_1⟩ := at_T35 (by repeat (first | (with_reducible exact HR212_0.out) | (with_reducible refine Kd.C_alloc ?_ _) | (with_reducible refine Kd.C_drewN ?_ _) | (with_reducible refine Kd.C_drew ?_) | exact HR212_0.out)) x8_4 p213 q213
                                      cases e213
                                      replace p213 := eq_true p213
                                      replace q213 := eq_true q213
                                      have p214 : 0 ≤ (x6_2 : Int) := of_decide_eq_true (by first | (with_reducible assumption) | assumption)
                                      have q214 : x6_2 < (t197.length : Int) := of_decide_eq_true (by first | (with_reducible assumption) | assumption)
                                      obtain ⟨ad214, A214_0, c214_0, e214, hx214_0, hl214_0, hi214_0⟩ := at_L2 (Kd.S_reads' HO_4.out).2.2 x6_2 p214 q214
                                      obtain rfl : ad209 = ad214 := (by injection e214)
                                      obtain ⟨ce214, hce214, hMe214, hcc214⟩ := Kd.S_get HO_4.out [] x6_2 p214 (by first | exact q214 | exact of_decide_eq_true (by first | (with_reducible assumption) | assumption) | (have e_ := (Kd.S_reads' HO_4.out).1; omega))
                                      obtain ⟨ve214_0, rfl, ge214_0⟩ := hMe214
                                      have hv214_0 := hcc214 0 _ rfl
                                      rw [Nat.add_zero, show ((Kd.slice 35 k35)).sz = 1 from rfl, Nat.mul_one] at hv214_0
                                      replace hv214_0 := Option.some.inj (hv214_0.symm.trans hx214_0)
                                      rw [hv214_0] at ge214_0
                                      have HL214_0 := Aside0.mk (show Kd.R k35 35 _ _ _ _ (rd_L2 t197 x6_2) from ge214_0)
                                      clear hv214_0 ge214_0
                                      clear hcc214 hce214
                                      have HR214_0 := Aside0.mk hi214_0
                                      have HC214_0 := Aside0.mk hl214_0
                                      clear hi214_0 hl214_0
                                      replace p214 := eq_true p214
                                      replace q214 := eq_true q214
                                      have ea_ := Option.some.inj (hx209_0.symm.trans hx214_0)
                                      injection ea_ with ea_ en_ ec_
                                      subst ea_
                                      subst ec_
                                      clear en_
                                      have p215 : 0 ≤ (x8_4 : Int) := of_decide_eq_true (by first | (with_reducible assumption) | assumption)
                                      have q215 : x8_4 < ((rd_L2 t197 x6_2).length : Int) := of_decide_eq_true (by first | (with_reducible assumption) | assumption)
                                      obtain ⟨ad215, e215, hx215_0, hx215_1⟩ := at_T35 (by repeat (first | (with_reducible exact HR214_0.out) | (with_reducible refine Kd.C_alloc ?_ _) | (with_reducible refine Kd.C_drewN ?_ _) | (with_reducible refine Kd.C_drew ?_) | exact HR214_0.out)) x8_4 p215 q215
                                      cases e215
                                      replace p215 := eq_true p215
                                      replace q215 := eq_true q215
                                      have p216 : 0 ≤ (x6_2 : Int) := of_decide_eq_true (by first | (with_reducible assumption) | assumption)
                                      have q216 : x6_2 < (t197.length : Int) := of_decide_eq_true (by first | (with_reducible assumption) | assumption)
                                      obtain ⟨ad216, A216_0, c216_0, e216, hx216_0, hl216_0, hi216_0⟩ := at_L2 (Kd.S_reads' HO_4.out).2.2 x6_2 p216 q216
                                      obtain rfl : ad209 = ad216 := (by injection e216)
                                      obtain ⟨ce216, hce216, hMe216, hcc216⟩ := Kd.S_get HO_4.out [] x6_2 p216 (by first | exact q216 | exact of_decide_eq_true (by first | (with_reducible assumption) | assumption) | (have e_ := (Kd.S_reads' HO_4.out).1; omega))
                                      obtain ⟨ve216_0, rfl, ge216_0⟩ := hMe216
                                      have hv216_0 := hcc216 0 _ rfl
                                      rw [Nat.add_zero, show ((Kd.slice 35 k35)).sz = 1 from rfl, Nat.mul_one] at hv216_0
                                      replace hv216_0 := Option.some.inj (hv216_0.symm.trans hx216_0)
                                      rw [hv216_0] at ge216_0
                                      have HL216_0 := Aside0.mk (show Kd.R k35 35 _ _ _ _ (rd_L2 t197 x6_2) from ge216_0)
                                      clear hv216_0 ge216_0
                                      clear hcc216 hce216
                                      have HR216_0 := Aside0.mk hi216_0
                                      have HC216_0 := Aside0.mk hl216_0
                                      clear hi216_0 hl216_0
                                      replace p216 := eq_true p216
                                      replace q216 := eq_true q216
                                      have ea_ := Option.some.inj (hx209_0.symm.trans hx216_0)
                                      injection ea_ with ea_ en_ ec_
                                      subst ea_
                                      subst ec_
                                      clear en_
                                      have p217 : 0 ≤ (x8_4 : Int) := of_decide_eq_true (by first | (with_reducible assumption) | assumption)
                                      have q217 : x8_4 < ((rd_L2 t197 x6_2).length : Int) := of_decide_eq_true (by first | (with_reducible assumption) | assumption)
                                      obtain ⟨ad217, e217, hx217_0, hx217_1⟩ := at_T35 (by repeat (first | (with_reducible exact HR216_0.out) | (with_reducible refine Kd.C_alloc ?_ _) | (with_reducible refine Kd.C_drewN ?_ _) | (with_reducible refine Kd.C_drew ?_) | exact HR216_0.out)) x8_4 p217 q217
                                      cases e217
                                      replace p217 := eq_true p217
                                      replace q217 := eq_true q217
                                      go_wp2
                                      repeat (go_quiet (fail); try go_wp2)
                                      go_ret
                                      exact ⟨by first | rfl | (simp [errW_none, errW_some] <;> rfl) | (simp [*, errW_none, errW_some] <;> rfl), by repeat (first | (with_reducible first | exact HB.out | apply below_alloc | apply pw_below_drewN | apply below_drew1) | exact HB.out)⟩
                                    · rw [if_neg c21] at H
                                      have c21b0 : decide (255 < ((rd_T35 (rd_L2 t197 x6_2) x8_4).f1)) = false := decide_eq_false c21
                                      clear c21
                                      have H' := Aside0.mk H
                                      clear H
                                      have p209 : 0 ≤ (x6_2 : Int) := of_decide_eq_true (by first | (with_reducible assumption) | assumption)
                                      have q209 : x6_2 < (t197.length : Int) := of_decide_eq_true (by first | (with_reducible assumption) | assumption)
                                      obtain ⟨ad209, A209_0, c209_0, e209, hx209_0, hl209_0, hi209_0⟩ := at_L2 (Kd.S_reads' HO_4.out).2.2 x6_2 p209 q209
                                      cases e209
                                      obtain ⟨ce209, hce209, hMe209, hcc209⟩ := Kd.S_get HO_4.out [] x6_2 p209 (by first | exact q209 | exact of_decide_eq_true (by first | (with_reducible assumption) | assumption) | (have e_ := (Kd.S_reads' HO_4.out).1; omega))
                                      obtain ⟨ve209_0, rfl, ge209_0⟩ := hMe209
                                      have hv209_0 := hcc209 0 _ rfl
                                      rw [Nat.add_zero, show ((Kd.slice 35 k35)).sz = 1 from rfl, Nat.mul_one] at hv209_0
                                      replace hv209_0 := Option.some.inj (hv209_0.symm.trans hx209_0)
                                      rw [hv209_0] at ge209_0
                                      have HL209_0 := Aside0.mk (show Kd.R k35 35 _ _ _ _ (rd_L2 t197 x6_2) from ge209_0)
                                      clear hv209_0 ge209_0
                                      clear hcc209 hce209
                                      have HR209_0 := Aside0.mk hi209_0
                                      have HC209_0 := Aside0.mk hl209_0
                                      clear hi209_0 hl209_0
                                      replace p209 := eq_true p209
                                      replace q209 := eq_true q209
                                      have p210 : 0 ≤ (x6_2 : Int) := of_decide_eq_true (by first | (with_reducible assumption) | assumption)
                                      have q210 : x6_2 < (t197.length : Int) := of_decide_eq_true (by first | (with_reducible assumption) | assumption)
                                      obtain ⟨ad210, A210_0, c210_0, e210, hx210_0, hl210_0, hi210_0⟩ := at_L2 (Kd.S_reads' HO_4.out).2.2 x6_2 p210 q210
                                      obtain rfl : ad209 = ad210 := (by injection e210)
                                      obtain ⟨ce210, hce210, hMe210, hcc210⟩ := Kd.S_get HO_4.out [] x6_2 p210 (by first | exact q210 | exact of_decide_eq_true (by first | (with_reducible assumption) | assumption) | (have e_ := (Kd.S_reads' HO_4.out).1; omega))
                                      obtain ⟨ve210_0, rfl, ge210_0⟩ := hMe210
                                      have hv210_0 := hcc210 0 _ rfl
                                      rw [Nat.add_zero, show ((Kd.slice 35 k35)).sz = 1 from rfl, Nat.mul_one] at hv210_0
                                      replace hv210_0 := Option.some.inj (hv210_0.symm.trans hx210_0)
                                      rw [hv210_0] at ge210_0
                                      have HL210_0 := Aside0.mk (show Kd.R k35 35 _ _ _ _ (rd_L2 t197 x6_2) from ge210_0)
                                      clear hv210_0 ge210_0
                                      clear hcc210 hce210
                                      have HR210_0 := Aside0.mk hi210_0
                                      have HC210_0 := Aside0.mk hl210_0
                                      clear hi210_0 hl210_0
                                      replace p210 := eq_true p210
                                      replace q210 := eq_true q210
                                      have ea_ := Option.some.inj (hx209_0.symm.trans hx210_0)
                                      injection ea_ with ea_ en_ ec_
                                      subst ea_
                                      subst ec_
                                      clear en_
                                      have p211 : 0 ≤ (x8_4 : Int) := of_decide_eq_true (by first | (with_reducible assumption) | assumption)
                                      have q211 : x8_4 < ((rd_L2 t197 x6_2).length : Int) := of_decide_eq_true (by first | (with_reducible assumption) | assumption)
                                      obtain ⟨ad211, e211, hx211_0, hx211_1⟩ := at_T35 (by repeat (first | (with_reducible exact HR210_0.out) | (with_reducible refine Kd.C_alloc ?_ _) | (with_reducible refine Kd.C_drewN ?_ _) | (with_reducible refine Kd.C_drew ?_) | exact HR210_0.out)) x8_4 p211 q211
                                      cases e211
                                      replace p211 := eq_true p211
                                      replace q211 := eq_true q211
                                      have p212 : 0 ≤ (x6_2 : Int) := of_decide_eq_true (by first | (with_reducible assumption) | assumption)
                                      have q212 : x6_2 < (t197.length : Int) := of_decide_eq_true (by first | (with_reducible assumption) | assumption)
                                      obtain ⟨ad212, A212_0, c212_0, e212, hx212_0, hl212_0, hi212_0⟩ := at_L2 (Kd.S_reads' HO_4.out).2.2 x6_2 p212 q212
                                      obtain rfl : ad209 = ad212 := (by injection e212)
                                      obtain ⟨ce212, hce212, hMe212, hcc212⟩ := Kd.S_get HO_4.out [] x6_2 p212 (by first | exact q212 | exact of_decide_eq_true (by first | (with_reducible assumption) | assumption) | (have e_ := (Kd.S_reads' HO_4.out).1; omega))
                                      obtain ⟨ve212_0, rfl, ge212_0⟩ := hMe212
                                      have hv212_0 := hcc212 0 _ rfl
                                      rw [Nat.add_zero, show ((Kd.slice 35 k35)).sz = 1 from rfl, Nat.mul_one] at hv212_0
                                      replace hv212_0 := Option.some.inj (hv212_0.symm.trans hx212_0)
                                      rw [hv212_0] at ge212_0
                                      have HL212_0 := Aside0.mk (show Kd.R k35 35 _ _ _ _ (rd_L2 t197 x6_2) from ge212_0)
                                      clear hv212_0 ge212_0
                                      clear hcc212 hce212
                                      have HR212_0 := Aside0.mk hi212_0
                                      have HC212_0 := Aside0.mk hl212_0
                                      clear hi212_0 hl212_0
                                      replace p212 := eq_true p212
                                      replace q212 := eq_true q212
                                      have ea_ := Option.some.inj (hx209_0.symm.trans hx212_0)
                                      injection ea_ with ea_ en_ ec_
                                      subst ea_
                                      subst ec_
                                      clear en_
                                      have p213 : 0 ≤ (x8_4 : Int) := of_decide_eq_true (by first | (with_reducible assumption) | assumption)
                                      have q213 : x8_4 < ((rd_L2 t197 x6_2).length : Int) := of_decide_eq_true (by first | (with_reducible assumption) | assumption)
                                      obtain ⟨ad213, e213, hx213_0, hx213_1⟩ := at_T35 (by repeat (first | (with_reducible exact HR212_0.out) | (with_reducible refine Kd.C_alloc ?_ _) | (with_reducible refine Kd.C_drewN ?_ _) | (with_reducible refine Kd.C_drew ?_) | exact HR212_0.out)) x8_4 p213 q213
                                      cases e213
                                      replace p213 := eq_true p213
                                      replace q213 := eq_true q213
                                      have p214 : 0 ≤ (x6_2 : Int) := of_decide_eq_true (by first | (with_reducible assumption) | assumption)
                                      have q214 : x6_2 < (t197.length : Int) := of_decide_eq_true (by first | (with_reducible assumption) | assumption)
                                      obtain ⟨ad214, A214_0, c214_0, e214, hx214_0, hl214_0, hi214_0⟩ := at_L2 (Kd.S_reads' HO_4.out).2.2 x6_2 p214 q214
                                      obtain rfl : ad209 = ad214 := (by injection e214)
                                      obtain ⟨ce214, hce214, hMe214, hcc214⟩ := Kd.S_get HO_4.out [] x6_2 p214 (by first | exact q214 | exact of_decide_eq_true (by first | (with_reducible assumption) | assumption) | (have e_ := (Kd.S_reads' HO_4.out).1; omega))
                                      obtain ⟨ve214_0, rfl, ge214_0⟩ := hMe214
                                      have hv214_0 := hcc214 0 _ rfl
                                      rw [Nat.add_zero, show ((Kd.slice 35 k35)).sz = 1 from rfl, Nat.mul_one] at hv214_0
                                      replace hv214_0 := Option.some.inj (hv214_0.symm.trans hx214_0)
                                      rw [hv214_0] at ge214_0
                                      have HL214_0 := Aside0.mk (show Kd.R k35 35 _ _ _ _ (rd_L2 t197 x6_2) from ge214_0)
                                      clear hv214_0 ge214_0
                                      clear hcc214 hce214
                                      have HR214_0 := Aside0.mk hi214_0
                                      have HC214_0 := Aside0.mk hl214_0
                                      clear hi214_0 hl214_0
                                      replace p214 := eq_true p214
                                      replace q214 := eq_true q214
                                      have ea_ := Option.some.inj (hx209_0.symm.trans hx214_0)
                                      injection ea_ with ea_ en_ ec_
                                      subst ea_
                                      subst ec_
                                      clear en_
                                      have p215 : 0 ≤ (x8_4 : Int) := of_decide_eq_true (by first | (with_reducible assumption) | assumption)
                                      have q215 : x8_4 < ((rd_L2 t197 x6_2).length : Int) := of_decide_eq_true (by first | (with_reducible assumption) | assumption)
                                      obtain ⟨ad215, e215, hx215_0, hx215_1⟩ := at_T35 (by repeat (first | (with_reducible exact HR214_0.out) | (with_reducible refine Kd.C_alloc ?_ _) | (with_reducible refine Kd.C_drewN ?_ _) | (with_reducible refine Kd.C_drew ?_) | exact HR214_0.out)) x8_4 p215 q215
                                      cases e215
                                      replace p215 := eq_true p215
                                      replace q215 := eq_true q215
                                      have p216 : 0 ≤ (x6_2 : Int) := of_decide_eq_true (by first | (with_reducible assumption) | assumption)
                                      have q216 : x6_2 < (t197.length : Int) := of_decide_eq_true (by first | (with_reducible assumption) | assumption)
                                      obtain ⟨ad216, A216_0, c216_0, e216, hx216_0, hl216_0, hi216_0⟩ := at_L2 (Kd.S_reads' HO_4.out).2.2 x6_2 p216 q216
                                      obtain rfl : ad209 = ad216 := (by injection e216)
                                      obtain ⟨ce216, hce216, hMe216, hcc216⟩ := Kd.S_get HO_4.out [] x6_2 p216 (by first | exact q216 | exact of_decide_eq_true (by first | (with_reducible assumption) | assumption) | (have e_ := (Kd.S_reads' HO_4.out).1; omega))
                                      obtain ⟨ve216_0, rfl, ge216_0⟩ := hMe216
                                      have hv216_0 := hcc216 0 _ rfl
                                      rw [Nat.add_zero, show ((Kd.slice 35 k35)).sz = 1 from rfl, Nat.mul_one] at hv216_0
                                      replace hv216_0 := Option.some.inj (hv216_0.symm.trans hx216_0)
                                      rw [hv216_0] at ge216_0
                                      have HL216_0 := Aside0.mk (show Kd.R k35 35 _ _ _ _ (rd_L2 t197 x6_2) from ge216_0)
                                      clear hv216_0 ge216_0
                                      clear hcc216 hce216
                                      have HR216_0 := Aside0.mk hi216_0
                                      have HC216_0 := Aside0.mk hl216_0
                                      clear hi216_0 hl216_0
                                      replace p216 := eq_true p216
                                      replace q216 := eq_true q216
                                      have ea_ := Option.some.inj (hx209_0.symm.trans hx216_0)
                                      injection ea_ with ea_ en_ ec_
                                      subst ea_
                                      subst ec_
                                      clear en_
                                      have p217 : 0 ≤ (x8_4 : Int) := of_decide_eq_true (by first | (with_reducible assumption) | assumption)
                                      have q217 : x8_4 < ((rd_L2 t197 x6_2).length : Int) := of_decide_eq_true (by first | (with_reducible assumption) | assumption)
                                      obtain ⟨ad217, e217, hx217_0, hx217_1⟩ := at_T35 (by repeat (first | (with_reducible exact HR216_0.out) | (with_reducible refine Kd.C_alloc ?_ _) | (with_reducible refine Kd.C_drewN ?_ _) | (with_reducible refine Kd.C_drew ?_) | exact HR216_0.out)) x8_4 p217 q217
                                      cases e217
                                      replace p217 := eq_true p217
                                      replace q217 := eq_true q217
                                      have p218 : 0 ≤ (x6_2 : Int) := of_decide_eq_true (by first | (with_reducible assumption) | assumption)
                                      have q218 : x6_2 < (t197.length : Int) := of_decide_eq_true (by first | (with_reducible assumption) | assumption)
                                      obtain ⟨ad218, A218_0, c218_0, e218, hx218_0, hl218_0, hi218_0⟩ := at_L2 (Kd.S_reads' HO_4.out).2.2 x6_2 p218 q218
                                      obtain rfl : ad209 = ad218 := (by injection e218)
                                      obtain ⟨ce218, hce218, hMe218, hcc218⟩ := Kd.S_get HO_4.out [] x6_2 p218 (by first | exact q218 | exact of_decide_eq_true (by first | (with_reducible assumption) | assumption) | (have e_ := (Kd.S_reads' HO_4.out).1; omega))
                                      obtain ⟨ve218_0, rfl, ge218_0⟩ := hMe218
                                      have hv218_0 := hcc218 0 _ rfl
                                      rw [Nat.add_zero, show ((Kd.slice 35 k35)).sz = 1 from rfl, Nat.mul_one] at hv218_0
                                      replace hv218_0 := Option.some.inj (hv218_0.symm.trans hx218_0)
                                      rw [hv218_0] at ge218_0
                                      have HL218_0 := Aside0.mk (show Kd.R k35 35 _ _ _ _ (rd_L2 t197 x6_2) from ge218_0)
                                      clear hv218_0 ge218_0
                                      clear hcc218 hce218
                                      have HR218_0 := Aside0.mk hi218_0
                                      have HC218_0 := Aside0.mk hl218_0
                                      clear hi218_0 hl218_0
                                      replace p218 := eq_true p218
                                      replace q218 := eq_true q218
                                      have ea_ := Option.some.inj (hx209_0.symm.trans hx218_0)
                                      injection ea_ with ea_ en_ ec_
                                      subst ea_
                                      subst ec_
                                      clear en_
                                      have p219 : 0 ≤ (x8_4 : Int) := of_decide_eq_true (by first | (with_reducible assumption) | assumption)
                                      have q219 : x8_4 < ((rd_L2 t197 x6_2).length : Int) := of_decide_eq_true (by first | (with_reducible assumption) | assumption)
                                      obtain ⟨ad219, e219, hx219_0, hx219_1⟩ := at_T35 (by repeat (first | (with_reducible exact HR218_0.out) | (with_reducible refine Kd.C_alloc ?_ _) | (with_reducible refine Kd.C_drewN ?_ _) | (with_reducible refine Kd.C_drew ?_) | exact HR218_0.out)) x8_4 p219 q219
                                      cases e219
                                      replace p219 := eq_true p219
                                      replace q219 := eq_true q219
                                      have p220 : 0 ≤ (x6_2 : Int) := of_decide_eq_true (by first | (with_reducible assumption) | assumption)
                                      have q220 : x6_2 < (t197.length : Int) := of_decide_eq_true (by first | (with_reducible assumption) | assumption)
                                      obtain ⟨ad220, A220_0, c220_0, e220, hx220_0, hl220_0, hi220_0⟩ := at_L2 (Kd.S_reads' HO_4.out).2.2 x6_2 p220 q220
                                      obtain rfl : ad209 = ad220 := (by injection e220)
                                      obtain ⟨ce220, hce220, hMe220, hcc220⟩ := Kd.S_get HO_4.out [] x6_2 p220 (by first | exact q220 | exact of_decide_eq_true (by first | (with_reducible assumption) | assumption) | (have e_ := (Kd.S_reads' HO_4.out).1; omega))
                                      obtain ⟨ve220_0, rfl, ge220_0⟩ := hMe220
                                      have hv220_0 := hcc220 0 _ rfl
                                      rw [Nat.add_zero, show ((Kd.slice 35 k35)).sz = 1 from rfl, Nat.mul_one] at hv220_0
                                      replace hv220_0 := Option.some.inj (hv220_0.symm.trans hx220_0)
                                      rw [hv220_0] at ge220_0
                                      have HL220_0 := Aside0.mk (show Kd.R k35 35 _ _ _ _ (rd_L2 t197 x6_2) from ge220_0)
                                      clear hv220_0 ge220_0
                                      clear hcc220 hce220
                                      have HR220_0 := Aside0.mk hi220_0
                                      have HC220_0 := Aside0.mk hl220_0
                                      clear hi220_0 hl220_0
                                      replace p220 := eq_true p220
                                      replace q220 := eq_true q220
                                      have ea_ := Option.some.inj (hx209_0.symm.trans hx220_0)
                                      injection ea_ with ea_ en_ ec_
                                      subst ea_
                                      subst ec_
                                      clear en_
                                      have p221 : 0 ≤ (x8_4 : Int) := of_decide_eq_true (by first | (with_reducible assumption) | assumption)
                                      have q221 : x8_4 < ((rd_L2 t197 x6_2).length : Int) := of_decide_eq_true (by first | (with_reducible assumption) | assumption)
                                      obtain ⟨ad221, e221, hx221_0, hx221_1⟩ := at_T35 (by repeat (first | (with_reducible exact HR220_0.out) | (with_reducible refine Kd.C_alloc ?_ _) | (with_reducible refine Kd.C_drewN ?_ _) | (with_reducible refine Kd.C_drew ?_) | exact HR220_0.out)) x8_4 p221 q221
                                      cases e221
                                      replace p221 := eq_true p221
                                      replace q221 := eq_true q221
                                      go_wp2
                                      repeat (go_quiet (fail); try go_wp2)
                                      go_roundg k4
                                      case measure => have := HJ2.out; have := HK2.out; have := HJ9.out; have := HK4.out; omega
                                      case rel => exact ⟨(wrap64 (x7_4 * (wrap64 ((wrap64 (((rd_T35 (rd_L2 t197 x6_2) x8_4).f1) - ((rd_T35 (rd_L2 t197 x6_2) x8_4).f0))) + 1)))), (wrap64 (x8_4 + 1)), (by first | rfl | (simp; done) | (simp [*]; done) | (simp [*, bne]; done)), (by first | rfl | (simp; done) | (simp [*]; done) | (simp [*, bne]; done)), H', ⟨by have := HJ2.out; have := HK2.out; have := HJ9.out; have := HK4.out; omega⟩, ⟨by (with_reducible repeat (first | apply Kd.S_alloc | apply Kd.S_drewN | apply Kd.S_drew)); exact HO_4.out⟩, ⟨by repeat (first | (with_reducible first | exact HB.out | apply below_alloc | apply pw_below_drewN | apply below_drew1) | exact HB.out)⟩⟩
                              · rw [if_neg c18] at H
                                exact absurd H (by simp)
                            · rw [if_neg c17] at H
                              have c17b0 : decide (x8_4 < ((rd_L2 t197 x6_2).length : Int)) = false := decide_eq_false c17
                              clear c17
                              have H' := Aside0.mk H
                              clear H
                              have p209 : 0 ≤ (x6_2 : Int) := of_decide_eq_true (by first | (with_reducible assumption) | assumption)
                              have q209 : x6_2 < (t197.length : Int) := of_decide_eq_true (by first | (with_reducible assumption) | assumption)
                              obtain ⟨ad209, A209_0, c209_0, e209, hx209_0, hl209_0, hi209_0⟩ := at_L2 (Kd.S_reads' HO_4.out).2.2 x6_2 p209 q209
                              cases e209
                              obtain ⟨ce209, hce209, hMe209, hcc209⟩ := Kd.S_get HO_4.out [] x6_2 p209 (by first | exact q209 | exact of_decide_eq_true (by first | (with_reducible assumption) | assumption) | (have e_ := (Kd.S_reads' HO_4.out).1; omega))
                              obtain ⟨ve209_0, rfl, ge209_0⟩ := hMe209
                              have hv209_0 := hcc209 0 _ rfl
                              rw [Nat.add_zero, show ((Kd.slice 35 k35)).sz = 1 from rfl, Nat.mul_one] at hv209_0
                              replace hv209_0 := Option.some.inj (hv209_0.symm.trans hx209_0)
                              rw [hv209_0] at ge209_0
                              have HL209_0 := Aside0.mk (show Kd.R k35 35 _ _ _ _ (rd_L2 t197 x6_2) from ge209_0)
                              clear hv209_0 ge209_0
                              clear hcc209 hce209
                              have HR209_0 := Aside0.mk hi209_0
                              have HC209_0 := Aside0.mk hl209_0
                              clear hi209_0 hl209_0
                              replace p209 := eq_true p209
                              replace q209 := eq_true q209
                              go_wp2
                              repeat (go_quiet (fail); try go_wp2)
                              go_roundg k4
                              case measure => have := HJ2.out; have := HK2.out; have := HJ9.out; have := HK4.out; omega
                              case rel => exact ⟨(wrap64 (x5_2 + x7_4)), (wrap64 (x6_2 + 1)), (by first | rfl | (simp; done) | (simp [*]; done) | (simp [*, bne]; done)), (by first | rfl | (simp; done) | (simp [*]; done) | (simp [*, bne]; done)), H', ⟨by have := HJ2.out; have := HK2.out; have := HJ9.out; have := HK4.out; omega⟩, ⟨by (with_reducible repeat (first | apply Kd.S_alloc | apply Kd.S_drewN | apply Kd.S_drew)); exact HO_4.out⟩, ⟨by repeat (first | (with_reducible first | exact HB.out | apply below_alloc | apply pw_below_drewN | apply below_drew1) | exact HB.out)⟩⟩
                          · rw [if_neg c16] at H
                            exact absurd H (by simp)
                        · rw [if_neg c15] at H
                          exact absurd H (by simp)
            · rw [if_neg c9] at H
              have c9b0 : decide (x6_2 < (t197.length : Int)) = false := decide_eq_false c9
              clear c9
              obtain ⟨y200, hy200⟩ : ∃ y_ : List (S35), y_ = (([(⟨55296, 57343⟩ : S35)] : List (S35))) := ⟨_, rfl⟩
              replace H : ((ranges_Less.f l0 y200).bind fun t203 => ((ranges_Size.f k2 t203).bind fun t206 => (some (x5_2 == t206)))) = some r := by first | (rw [hy200]; with_reducible exact H) | (have H2_ := (Option.bind_some _ _).symm.trans H; rw [hy200]; with_reducible exact H2_) | (have H2_ := (Option.bind_some _ _).symm.trans H; with_reducible exact H2_) | with_reducible exact H | (rw [hy200]; exact H) | exact H
              have Ny200 := Aside0.mk hy200
              clear hy200
              replace H := Option.bind_eq_some_iff.mp H
              obtain ⟨t203, A220, H⟩ := H
              replace H : ((ranges_Size.f k2 t203).bind fun t206 => (some (x5_2 == t206))) = some r := H
              have A22 := Aside0.mk A220
              clear A220
              replace H := Option.bind_eq_some_iff.mp H
              obtain ⟨t206, A230, H⟩ := H
              replace H : (some (x5_2 == t206)) = some r := H
              have A23 := Aside0.mk A230
              clear A230
              obtain rfl := Option.some.inj H
              obtain ⟨Ao24, co24, eo24⟩ := Kd.S_slice HO_4.out
              subst eo24
              go_wp2_with (first | ((with_reducible refine gate_dst (N := 114) rfl ?_); (try (refine gate_guard (by rfl) ?_; dsimp only)); refine Kd.R_lit k35 _ 35 ?hg (N := 114) ?hd (xs := ([(⟨55296, 57343⟩ : S35)] : List (S35))) (inner := [.int .i64 55296, .int .i64 57343]) (ok := fun _ => True) (okp := fun _ => True) ?hr ?hp (fun _ hk => hk) trivial (Below.refl _ _) (Nat.le_refl _) (by simp) ?_; (case hd => rfl); (case hg => rfl); (case hr => first | (go_simp; done) | (go_simp; rfl)); (case hp => exact (Reps.c2 (show Kd.M k35 _ _ _ (⟨55296, 57343⟩ : S35) [.int .i64 55296, .int .i64 57343] from (k35_mkM _ _ _ (⟨55296, 57343⟩ : S35) )) (Reps.none _ _))); intro v201 w25 ho26 hb hg_ hnew_; clear hg_ hnew_; (first | rw [← Ny200.out] at ho26 | (simp only [Int.reduceToNat] at ho26; rw [← Ny200.out] at ho26)); have n0_ := Aside0.mk (Kd.S_elder' (by (with_reducible repeat (first | apply Kd.S_alloc | apply Kd.S_drewN | apply Kd.S_drew)); exact HO_4.out) (Kd.R_base ho26) hb); have n1_ := Aside0.mk (Kd.R_lower ho26 (below_size (by repeat (first | (with_reducible first | exact HB.out | apply below_alloc | apply pw_below_drewN | apply below_drew1) | exact HB.out)))); have n2_ := Aside0.mk (below_step (by repeat (first | (with_reducible first | exact HB.out | apply below_alloc | apply pw_below_drewN | apply below_drew1) | exact HB.out)) hb); clear HO_4; clear HB; have HO_4 := n0_; have HO202 := n1_; have HB := n2_; clear n0_ n1_ n2_; clear hb ho26; obtain ⟨Ao27, co27, eo27⟩ := Kd.R_slice HO202.out; subst eo27) | (go_at_call 22; (with_reducible refine (ranges_Less.calls _ _ l0 _ _ y200 t203 _ ?side1 ?side2 ?side3 ?side4 A22.out).mono ?_); (case side1 => repeat (first | exact (Kd.C_below HR0.out HB.out) | (with_reducible refine Kd.C_alloc ?_ _) | (with_reducible refine Kd.C_drewN ?_ _) | (with_reducible refine Kd.C_drew ?_))); (case side2 => exact HC0.out); (case side3 => repeat (first | exact (Kd.R_reads' HO202.out).2.2 | (with_reducible refine Kd.C_alloc ?_ _) | (with_reducible refine Kd.C_drewN ?_ _) | (with_reducible refine Kd.C_drew ?_))); (case side4 => exact (Kd.R_reads' HO202.out).2.1); rintro e w28 ⟨v204, rfl, ho0, hb⟩; have n0_ := Aside0.mk (Kd.S_elder' (by (with_reducible repeat (first | apply Kd.S_alloc | apply Kd.S_drewN | apply Kd.S_drew)); exact HO_4.out) (Kd.R_base ho0) hb); have n1_ := Aside0.mk (Kd.R_elder' (by (with_reducible repeat (first | apply Kd.R_alloc | apply Kd.R_drewN | apply Kd.R_drew)); exact HO202.out) (Kd.R_base ho0) hb); have n2_ := Aside0.mk (Kd.R_lower (Kd.R_new' ho0 (Kd.R_lt (by (with_reducible repeat (first | apply Kd.R_alloc | apply Kd.R_drewN | apply Kd.R_drew)); exact HO202.out))) (below_size (by repeat (first | (with_reducible first | exact HB.out | apply below_alloc | apply pw_below_drewN | apply below_drew1) | exact HB.out)))); have n3_ := Aside0.mk (below_step (by repeat (first | (with_reducible first | exact HB.out | apply below_alloc | apply pw_below_drewN | apply below_drew1) | exact HB.out)) hb); clear HO_4; clear HO202; clear HB; have HO_4 := n0_; have HO202 := n1_; have HO205 := n2_; have HB := n3_; clear n0_ n1_ n2_ n3_; (try clear hb); (try clear hb2); (try clear hk); (try clear hi); (try clear ho0); obtain ⟨Ao29, co29, eo29⟩ := Kd.R_slice HO205.out; subst eo29) | (go_at_call 21; (with_reducible refine (ranges_Size.calls k2 _ _ t203 t206 _ ?side1 ?side2 A23.out).mono ?_); (case side1 => repeat (first | exact (Kd.R_reads' HO205.out).2.2 | (with_reducible refine Kd.C_alloc ?_ _) | (with_reducible refine Kd.C_drewN ?_ _) | (with_reducible refine Kd.C_drew ?_))); (case side2 => exact (Kd.R_reads' HO205.out).2.1); rintro e w30 ⟨rfl, hb⟩; have n0_ := Aside0.mk (Kd.S_below (by (with_reducible repeat (first | apply Kd.S_alloc | apply Kd.S_drewN | apply Kd.S_drew)); exact HO_4.out) hb); have n1_ := Aside0.mk (Kd.R_below (by (with_reducible repeat (first | apply Kd.R_alloc | apply Kd.R_drewN | apply Kd.R_drew)); exact HO202.out) hb); have n2_ := Aside0.mk (Kd.R_below (by (with_reducible repeat (first | apply Kd.R_alloc | apply Kd.R_drewN | apply Kd.R_drew)); exact HO205.out) hb); have n3_ := Aside0.mk (below_step (by repeat (first | (with_reducible first | exact HB.out | apply below_alloc | apply pw_below_drewN | apply below_drew1) | exact HB.out)) hb); clear HO_4; clear HO202; clear HO205; clear HB; have HO_4 := n0_; have HO202 := n1_; have HO205 := n2_; have HB := n3_; clear n0_ n1_ n2_ n3_; (try clear hb); (try clear hb2); (try clear hk); (try clear hi)))
              repeat (go_quiet (first | ((with_reducible refine gate_dst (N := 114) rfl ?_); (try (refine gate_guard (by rfl) ?_; dsimp only)); refine Kd.R_lit k35 _ 35 ?hg (N := 114) ?hd (xs := ([(⟨55296, 57343⟩ : S35)] : List (S35))) (inner := [.int .i64 55296, .int .i64 57343]) (ok := fun _ => True) (okp := fun _ => True) ?hr ?hp (fun _ hk => hk) trivial (Below.refl _ _) (Nat.le_refl _) (by simp) ?_; (case hd => rfl); (case hg => rfl); (case hr => first | (go_simp; done) | (go_simp; rfl)); (case hp => exact (Reps.c2 (show Kd.M k35 _ _ _ (⟨55296, 57343⟩ : S35) [.int .i64 55296, .int .i64 57343] from (k35_mkM _ _ _ (⟨55296, 57343⟩ : S35) )) (Reps.none _ _))); intro v201 w25 ho26 hb hg_ hnew_; clear hg_ hnew_; (first | rw [← Ny200.out] at ho26 | (simp only [Int.reduceToNat] at ho26; rw [← Ny200.out] at ho26)); have n0_ := Aside0.mk (Kd.S_elder' (by (with_reducible repeat (first | apply Kd.S_alloc | apply Kd.S_drewN | apply Kd.S_drew)); exact HO_4.out) (Kd.R_base ho26) hb); have n1_ := Aside0.mk (Kd.R_lower ho26 (below_size (by repeat (first | (with_reducible first | exact HB.out | apply below_alloc | apply pw_below_drewN | apply below_drew1) | exact HB.out)))); have n2_ := Aside0.mk (below_step (by repeat (first | (with_reducible first | exact HB.out | apply below_alloc | apply pw_below_drewN | apply below_drew1) | exact HB.out)) hb); clear HO_4; clear HB; have HO_4 := n0_; have HO202 := n1_; have HB := n2_; clear n0_ n1_ n2_; clear hb ho26; obtain ⟨Ao27, co27, eo27⟩ := Kd.R_slice HO202.out; subst eo27) | (go_at_call 22; (with_reducible refine (ranges_Less.calls _ _ l0 _ _ y200 t203 _ ?side1 ?side2 ?side3 ?side4 A22.out).mono ?_); (case side1 => repeat (first | exact (Kd.C_below HR0.out HB.out) | (with_reducible refine Kd.C_alloc ?_ _) | (with_reducible refine Kd.C_drewN ?_ _) | (with_reducible refine Kd.C_drew ?_))); (case side2 => exact HC0.out); (case side3 => repeat (first | exact (Kd.R_reads' HO202.out).2.2 | (with_reducible refine Kd.C_alloc ?_ _) | (with_reducible refine Kd.C_drewN ?_ _) | (with_reducible refine Kd.C_drew ?_))); (case side4 => exact (Kd.R_reads' HO202.out).2.1); rintro e w28 ⟨v204, rfl, ho0, hb⟩; have n0_ := Aside0.mk (Kd.S_elder' (by (with_reducible repeat (first | apply Kd.S_alloc | apply Kd.S_drewN | apply Kd.S_drew)); exact HO_4.out) (Kd.R_base ho0) hb); have n1_ := Aside0.mk (Kd.R_elder' (by (with_reducible repeat (first | apply Kd.R_alloc | apply Kd.R_drewN | apply Kd.R_drew)); exact HO202.out) (Kd.R_base ho0) hb); have n2_ := Aside0.mk (Kd.R_lower (Kd.R_new' ho0 (Kd.R_lt (by (with_reducible repeat (first | apply Kd.R_alloc | apply Kd.R_drewN | apply Kd.R_drew)); exact HO202.out))) (below_size (by repeat (first | (with_reducible first | exact HB.out | apply below_alloc | apply pw_below_drewN | apply below_drew1) | exact HB.out)))); have n3_ := Aside0.mk (below_step (by repeat (first | (with_reducible first | exact HB.out | apply below_alloc | apply pw_below_drewN | apply below_drew1) | exact HB.out)) hb); clear HO_4; clear HO202; clear HB; have HO_4 := n0_; have HO202 := n1_; have HO205 := n2_; have HB := n3_; clear n0_ n1_ n2_ n3_; (try clear hb); (try clear hb2); (try clear hk); (try clear hi); (try clear ho0); obtain ⟨Ao29, co29, eo29⟩ := Kd.R_slice HO205.out; subst eo29) | (go_at_call 21; (with_reducible refine (ranges_Size.calls k2 _ _ t203 t206 _ ?side1 ?side2 A23.out).mono ?_); (case side1 => repeat (first | exact (Kd.R_reads' HO205.out).2.2 | (with_reducible refine Kd.C_alloc ?_ _) | (with_reducible refine Kd.C_drewN ?_ _) | (with_reducible refine Kd.C_drew ?_))); (case side2 => exact (Kd.R_reads' HO205.out).2.1); rintro e w30 ⟨rfl, hb⟩; have n0_ := Aside0.mk (Kd.S_below (by (with_reducible repeat (first | apply Kd.S_alloc | apply Kd.S_drewN | apply Kd.S_drew)); exact HO_4.out) hb); have n1_ := Aside0.mk (Kd.R_below (by (with_reducible repeat (first | apply Kd.R_alloc | apply Kd.R_drewN | apply Kd.R_drew)); exact HO202.out) hb); have n2_ := Aside0.mk (Kd.R_below (by (with_reducible repeat (first | apply Kd.R_alloc | apply Kd.R_drewN | apply Kd.R_drew)); exact HO205.out) hb); have n3_ := Aside0.mk (below_step (by repeat (first | (with_reducible first | exact HB.out | apply below_alloc | apply pw_below_drewN | apply below_drew1) | exact HB.out)) hb); clear HO_4; clear HO202; clear HO205; clear HB; have HO_4 := n0_; have HO202 := n1_; have HO205 := n2_; have HB := n3_; clear n0_ n1_ n2_ n3_; (try clear hb); (try clear hb2); (try clear hk); (try clear hi))); try go_wp2_with (first | ((with_reducible refine gate_dst (N := 114) rfl ?_); (try (refine gate_guard (by rfl) ?_; dsimp only)); refine Kd.R_lit k35 _ 35 ?hg (N := 114) ?hd (xs := ([(⟨55296, 57343⟩ : S35)] : List (S35))) (inner := [.int .i64 55296, .int .i64 57343]) (ok := fun _ => True) (okp := fun _ => True) ?hr ?hp (fun _ hk => hk) trivial (Below.refl _ _) (Nat.le_refl _) (by simp) ?_; (case hd => rfl); (case hg => rfl); (case hr => first | (go_simp; done) | (go_simp; rfl)); (case hp => exact (Reps.c2 (show Kd.M k35 _ _ _ (⟨55296, 57343⟩ : S35) [.int .i64 55296, .int .i64 57343] from (k35_mkM _ _ _ (⟨55296, 57343⟩ : S35) )) (Reps.none _ _))); intro v201 w25 ho26 hb hg_ hnew_; clear hg_ hnew_; (first | rw [← Ny200.out] at ho26 | (simp only [Int.reduceToNat] at ho26; rw [← Ny200.out] at ho26)); have n0_ := Aside0.mk (Kd.S_elder' (by (with_reducible repeat (first | apply Kd.S_alloc | apply Kd.S_drewN | apply Kd.S_drew)); exact HO_4.out) (Kd.R_base ho26) hb); have n1_ := Aside0.mk (Kd.R_lower ho26 (below_size (by repeat (first | (with_reducible first | exact HB.out | apply below_alloc | apply pw_below_drewN | apply below_drew1) | exact HB.out)))); have n2_ := Aside0.mk (below_step (by repeat (first | (with_reducible first | exact HB.out | apply below_alloc | apply pw_below_drewN | apply below_drew1) | exact HB.out)) hb); clear HO_4; clear HB; have HO_4 := n0_; have HO202 := n1_; have HB := n2_; clear n0_ n1_ n2_; clear hb ho26; obtain ⟨Ao27, co27, eo27⟩ := Kd.R_slice HO202.out; subst eo27) | (go_at_call 22; (with_reducible refine (ranges_Less.calls _ _ l0 _ _ y200 t203 _ ?side1 ?side2 ?side3 ?side4 A22.out).mono ?_); (case side1 => repeat (first | exact (Kd.C_below HR0.out HB.out) | (with_reducible refine Kd.C_alloc ?_ _) | (with_reducible refine Kd.C_drewN ?_ _) | (with_reducible refine Kd.C_drew ?_))); (case side2 => exact HC0.out); (case side3 => repeat (first | exact (Kd.R_reads' HO202.out).2.2 | (with_reducible refine Kd.C_alloc ?_ _) | (with_reducible refine Kd.C_drewN ?_ _) | (with_reducible refine Kd.C_drew ?_))); (case side4 => exact (Kd.R_reads' HO202.out).2.1); rintro e w28 ⟨v204, rfl, ho0, hb⟩; have n0_ := Aside0.mk (Kd.S_elder' (by (with_reducible repeat (first | apply Kd.S_alloc | apply Kd.S_drewN | apply Kd.S_drew)); exact HO_4.out) (Kd.R_base ho0) hb); have n1_ := Aside0.mk (Kd.R_elder' (by (with_reducible repeat (first | apply Kd.R_alloc | apply Kd.R_drewN | apply Kd.R_drew)); exact HO202.out) (Kd.R_base ho0) hb); have n2_ := Aside0.mk (Kd.R_lower (Kd.R_new' ho0 (Kd.R_lt (by (with_reducible repeat (first | apply Kd.R_alloc | apply Kd.R_drewN | apply Kd.R_drew)); exact HO202.out))) (below_size (by repeat (first | (with_reducible first | exact HB.out | apply below_alloc | apply pw_below_drewN | apply below_drew1) | exact HB.out)))); have n3_ := Aside0.mk (below_step (by repeat (first | (with_reducible first | exact HB.out | apply below_alloc | apply pw_below_drewN | apply below_drew1) | exact HB.out)) hb); clear HO_4; clear HO202; clear HB; have HO_4 := n0_; have HO202 := n1_; have HO205 := n2_; have HB := n3_; clear n0_ n1_ n2_ n3_; (try clear hb); (try clear hb2); (try clear hk); (try clear hi); (try clear ho0); obtain ⟨Ao29, co29, eo29⟩ := Kd.R_slice HO205.out; subst eo29) | (go_at_call 21; (with_reducible refine (ranges_Size.calls k2 _ _ t203 t206 _ ?side1 ?side2 A23.out).mono ?_); (case side1 => repeat (first | exact (Kd.R_reads' HO205.out).2.2 | (with_reducible refine Kd.C_alloc ?_ _) | (with_reducible refine Kd.C_drewN ?_ _) | (with_reducible refine Kd.C_drew ?_))); (case side2 => exact (Kd.R_reads' HO205.out).2.1); rintro e w30 ⟨rfl, hb⟩; have n0_ := Aside0.mk (Kd.S_below (by (with_reducible repeat (first | apply Kd.S_alloc | apply Kd.S_drewN | apply Kd.S_drew)); exact HO_4.out) hb); have n1_ := Aside0.mk (Kd.R_below (by (with_reducible repeat (first | apply Kd.R_alloc | apply Kd.R_drewN | apply Kd.R_drew)); exact HO202.out) hb); have n2_ := Aside0.mk (Kd.R_below (by (with_reducible repeat (first | apply Kd.R_alloc | apply Kd.R_drewN | apply Kd.R_drew)); exact HO205.out) hb); have n3_ := Aside0.mk (below_step (by repeat (first | (with_reducible first | exact HB.out | apply below_alloc | apply pw_below_drewN | apply below_drew1) | exact HB.out)) hb); clear HO_4; clear HO202; clear HO205; clear HB; have HO_4 := n0_; have HO202 := n1_; have HO205 := n2_; have HB := n3_; clear n0_ n1_ n2_ n3_; (try clear hb); (try clear hb2); (try clear hk); (try clear hi))))
              go_ret
              exact ⟨by first | rfl | (simp [errW_none, errW_some] <;> rfl) | (simp [*, errW_none, errW_some] <;> rfl), by repeat (first | (with_reducible first | exact HB.out | apply below_alloc | apply pw_below_drewN | apply below_drew1) | exact HB.out)⟩

/-- THE ONE PURE STATEMENT of exegetelaw03_SeqsBytes: yours. -/
def exegetelaw03_SeqsBytes.Pure : Prop := ∀ (l0 : List (S35)), l0.length ≤ maxLen → (∀ x ∈ l0, (Lit.int .i64 x.f0).wf = true ∧ (Lit.int .i64 x.f1).wf = true) → ∃ k, exegetelaw03_SeqsBytes.f k l0 = some true
theorem exegetelaw03_SeqsBytes.walk (P : exegetelaw03_SeqsBytes.Pure) (a0 : Option Addr) (cap0 : Nat) (l0 : List (S35)) (w : World) (hr0 : Kd.C k35 w a0 l0.length l0) (hm0 : l0.length ≤ maxLen) (hc0 : l0.length ≤ cap0) (hw0 : ∀ x ∈ l0, (Lit.int .i64 x.f0).wf = true ∧ (Lit.int .i64 x.f1).wf = true) :
    Calls Try.prog 6 #[.slice a0 l0.length cap0] w fun e w' => e = .returned (.bool true) ∧ Below w.heap.size w w' := by
  obtain ⟨k, h⟩ := P l0 hm0 hw0
  refine (exegetelaw03_SeqsBytes.calls k _ _ l0 true w hr0 hc0 h).mono ?_
  rintro e w' ⟨rfl, hd⟩
  exact ⟨rfl, hd⟩

end Go.Proofs.Ytcdahnkdongmdaa.All
