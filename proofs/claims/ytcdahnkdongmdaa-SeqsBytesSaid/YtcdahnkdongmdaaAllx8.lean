/- Contracts of functions of the program, each for every input, printed for this claim by a program out of the translation, some written by hand. -/
import Derived.Test.YtcdahnkdongmdaaAllx0
import Derived.Test.YtcdahnkdongmdaaAllx1
import Derived.Test.YtcdahnkdongmdaaAllx2
import Derived.Test.YtcdahnkdongmdaaAllx6
import Derived.Test.YtcdahnkdongmdaaAllx7
namespace Go.Proofs.Ytcdahnkdongmdaa.All
open Go.RowKit Go.Proofs.YtcdahnkdongmdaaW.PrintWords Go.Proofs.YtcdahnkdongmdaaW.PrintLast Go.Proofs.YtcdahnkdongmdaaW.PrintMore
attribute [local go_sem] max2_int min2_int max_two min_two max_three min_three max_four min_four   -- for this text's walks alone
set_option linter.unusedVariables false
set_option linter.unusedSimpArgs false

attribute [local go_sem high] eqA35
/-! ### seqs_Part: function 19 -/
mutual
def seqs_Part.j0 : Nat → List (List (S35)) → List Int → Int → Int → Bool → Option (Int)
  | 0, _, _, _, _, _ => none
  | k + 1, x0, x1, x2, x7, x17 => if x17 = true then (some x7) else (seqs_Part.l0 k x1 x2 x7 x0 (x0.length : Int) 0)
def seqs_Part.l0 : Nat → List Int → Int → Int → List (List (S35)) → Int → Int → Option (Int)
  | 0, _, _, _, _, _, _ => none
  | k + 1, x1, x2, x7, x19, x20, x21 => if x21 < x20 then (if 0 ≤ x21 then (if x21 < (x19.length : Int) then (if 0 ≤ x2 then (if x2 ≤ (x1.length : Int) then ((seqs_fits.f (rd_L2 x19 x21) (x1.drop (x2 : Int).toNat)).bind fun t171 => (seqs_Part.l0 k x1 x2 (mx x7 t171) x19 x20 (wrap64 (x21 + 1)))) else (none)) else (none)) else (none)) else (none)) else (some x7)
end
def seqs_Part.f (k : Nat) (l0 : List (List (S35))) (l1 : List Int) (a2 : Int) : Option (Int) := if a2 < 0 then (seqs_Part.j0 k l0 l1 a2 0 true) else (seqs_Part.j0 k l0 l1 a2 0 (decide (a2 > (l1.length : Int))))
theorem seqs_Part.mono_l : ∀ k, (∀ y0 y1 y2 y3 y4, LeO (seqs_Part.j0 k y0 y1 y2 y3 y4) (seqs_Part.j0 (k + 1) y0 y1 y2 y3 y4)) ∧ (∀ y0 y1 y2 y3 y4 y5, LeO (seqs_Part.l0 k y0 y1 y2 y3 y4 y5) (seqs_Part.l0 (k + 1) y0 y1 y2 y3 y4 y5))
  | 0 => ⟨fun _ _ _ _ _ r h => by simp [seqs_Part.j0] at h, fun _ _ _ _ _ _ r h => by simp [seqs_Part.l0] at h⟩
  | k + 1 => by
    obtain ⟨ih0, ih1⟩ := seqs_Part.mono_l k
    refine ⟨?_, ?_⟩
    · intro y0 y1 y2 y3 y4
      unfold seqs_Part.j0
      repeat' first
      | (with_reducible exact ih0 _ _ _ _ _)
      | (with_reducible exact ih1 _ _ _ _ _ _)
      | (with_reducible exact LeO.refl _)
      | (with_reducible exact LeO.none _)
      | (with_reducible refine LeO.ite ?_ ?_)
      | (with_reducible refine LeO.bind ?_ (fun _ => ?_))
      | exact ih0 _ _ _ _ _
      | exact ih1 _ _ _ _ _ _
      | exact LeO.none _
      | refine LeO.ite ?_ ?_
      | refine LeO.bind ?_ (fun _ => ?_)
    · intro y0 y1 y2 y3 y4 y5
      unfold seqs_Part.l0
      repeat' first
      | (with_reducible exact ih0 _ _ _ _ _)
      | (with_reducible exact ih1 _ _ _ _ _ _)
      | (with_reducible exact LeO.refl _)
      | (with_reducible exact LeO.none _)
      | (with_reducible refine LeO.ite ?_ ?_)
      | (with_reducible refine LeO.bind ?_ (fun _ => ?_))
      | exact ih0 _ _ _ _ _
      | exact ih1 _ _ _ _ _ _
      | exact LeO.none _
      | refine LeO.ite ?_ ?_
      | refine LeO.bind ?_ (fun _ => ?_)
theorem seqs_Part.mono : ∀ a0 a1 a2 k, LeO (seqs_Part.f k a0 a1 a2) (seqs_Part.f (k + 1) a0 a1 a2) := by
  intro a0 a1 a2 k
  obtain ⟨ih0, ih1⟩ := seqs_Part.mono_l k
  unfold seqs_Part.f
  repeat' first
      | (with_reducible exact ih0 _ _ _ _ _)
      | (with_reducible exact ih1 _ _ _ _ _ _)
      | (with_reducible exact LeO.refl _)
      | (with_reducible exact LeO.none _)
      | (with_reducible refine LeO.ite ?_ ?_)
      | (with_reducible refine LeO.bind ?_ (fun _ => ?_))
      | exact ih0 _ _ _ _ _
      | exact ih1 _ _ _ _ _ _
      | exact LeO.none _
      | refine LeO.ite ?_ ?_
      | refine LeO.bind ?_ (fun _ => ?_)
set_option maxHeartbeats 8000000 in
set_option maxRecDepth 100000 in
theorem seqs_Part.calls (k : Nat) (A0 : Option Addr) (c0 : Nat) (l0 : List (List (S35))) (A1 : Option Addr) (c1 : Nat) (l1 : List Int) (a2 : Int) (r : Int) (w : World) (hr0 : Kd.C (Kd.slice 35 k35) w A0 l0.length l0) (hc0 : l0.length ≤ c0) (hr1 : Kd.C (Kd.int .u8) w A1 l1.length l1) (hc1 : l1.length ≤ c1) (h : seqs_Part.f k l0 l1 a2 = some r) :
    Calls Try.prog 19 #[.slice A0 l0.length c0, .slice A1 l1.length c1, .int .i64 a2] w fun e w' => e = .returned (.int .i64 r) ∧ Below w.heap.size w w' := by
  have HR0 := Aside0.mk hr0
  have HC0 := Aside0.mk hc0
  clear hr0 hc0
  have HR1 := Aside0.mk hr1
  have HC1 := Aside0.mk hc1
  clear hr1 hc1
  have HB := Aside0.mk (Below.refl w.heap.size w)
  have H : (if a2 < 0 then (seqs_Part.j0 k l0 l1 a2 0 true) else (seqs_Part.j0 k l0 l1 a2 0 (decide (a2 > (l1.length : Int))))) = some r := h
  clear h
  have HC4 := Aside0.mk H
  clear H
  go_enter Try.func19, Try.ntmps19
  go_upto_region 2 with (fail)
  go_cut [17] (fun v17 wc => ∃ (kq : Nat) (x17_3 : Bool), v17 = .bool x17_3 ∧ Aside0 (seqs_Part.j0 kq l0 l1 a2 0 x17_3 = some r) ∧ Aside0 (kq ≤ k) ∧ Aside0 (Below w.heap.size w wc))
  case first =>
    have H := HC4.out
    clear HC4
    by_cases c5 : a2 < 0
    · rw [if_pos c5] at H
      have c5b0 : decide (a2 < 0) = true := decide_eq_true c5
      clear c5
      (first | rw [c5b0] | (simp only [i64_w, i32_w]; rw [c5b0]) | skip)
      have H' := Aside0.mk H
      clear H
      go_wp2
      go_meet
      case rel => exact ⟨_, (true), (by first | rfl | (simp; done) | (simp [*]; done) | (simp [*, bne]; done)), H', ⟨by first | omega | exact Nat.le_refl _⟩, ⟨by repeat (first | (with_reducible first | exact HB.out | apply below_alloc | apply pw_below_drewN | apply below_drew1) | exact HB.out)⟩⟩
    · rw [if_neg c5] at H
      have c5b0 : decide (a2 < 0) = false := decide_eq_false c5
      clear c5
      (first | rw [c5b0] | (simp only [i64_w, i32_w]; rw [c5b0]) | skip)
      have H' := Aside0.mk H
      clear H
      go_wp2
      go_meet
      case rel => exact ⟨_, (decide (a2 > (l1.length : Int))), (by first | rfl | (simp; done) | (simp [*]; done) | (simp [*, bne]; done)), H', ⟨by first | omega | exact Nat.le_refl _⟩, ⟨by repeat (first | (with_reducible first | exact HB.out | apply below_alloc | apply pw_below_drewN | apply below_drew1) | exact HB.out)⟩⟩
  case rest =>
    clear HC4
    try clear c1
    try clear p2
    try clear c5
    try clear c5b0
    obtain ⟨kq, x17_3, rfl, HA, HJ3, HB⟩ := hcut
    cases kq with
    | zero => exact absurd HA.out (by simp [seqs_Part.j0])
    | succ kj3 =>
      have H := HA.out
      clear HA
      simp only [seqs_Part.j0] at H
      by_cases c6 : x17_3 = true
      · subst c6
        have H1 : (some 0) = some r := by rw [if_pos rfl] at H; exact H
        clear H
        have H := H1
        clear H1
        obtain rfl := Option.some.inj H
        go_wp2
        go_ret
        exact ⟨by first | rfl | (simp [errW_none, errW_some] <;> rfl) | (simp [*, errW_none, errW_some] <;> rfl), by repeat (first | (with_reducible first | exact HB.out | apply below_alloc | apply pw_below_drewN | apply below_drew1) | exact HB.out)⟩
      · replace c6 := Bool.eq_false_iff.mpr c6
        subst c6
        have H1 : (seqs_Part.l0 kj3 l1 a2 0 l0 (l0.length : Int) 0) = some r := by rw [if_neg (show ¬ (false = true) by decide)] at H; exact H
        clear H
        have H := H1
        clear H1
        have H' := Aside0.mk H
        clear H
        go_wp2
        go_loopg [7, 21] kj3 (fun kq v7 v21 w' => ∃ (x7_2 : Int) (x21_2 : Int), v7 = .int .i64 x7_2 ∧ v21 = .int .i64 x21_2 ∧ Aside0 (seqs_Part.l0 kq l1 a2 x7_2 l0 (l0.length : Int) x21_2 = some r) ∧ Aside0 (kq ≤ kj3) ∧ Aside0 (Below w.heap.size w w'))
        case atStart => exact ⟨(0), (0), (by first | rfl | (simp; done) | (simp [*]; done) | (simp [*, bne]; done)), (by first | rfl | (simp; done) | (simp [*]; done) | (simp [*, bne]; done)), H', ⟨Nat.le_refl _⟩, ⟨by repeat (first | (with_reducible first | exact HB.out | apply below_alloc | apply pw_below_drewN | apply below_drew1) | exact HB.out)⟩⟩
        case round =>
          clear H'
          try clear c1
          try clear p2
          try clear c5
          try clear c5b0
          try clear c6
          try clear p2
          obtain ⟨x7_2, x21_2, rfl, rfl, HA, HK2, HB⟩ := hrel
          cases gk with
          | zero => exact absurd HA.out (by simp [seqs_Part.l0])
          | succ k2 =>
            have H := HA.out
            clear HA
            simp only [seqs_Part.l0] at H
            by_cases c7 : x21_2 < (l0.length : Int)
            · rw [if_pos c7] at H
              have c7b0 : decide (x21_2 < (l0.length : Int)) = true := decide_eq_true c7
              clear c7
              by_cases c8 : 0 ≤ x21_2
              · rw [if_pos c8] at H
                have c8b0 : decide (0 ≤ x21_2) = true := decide_eq_true c8
                clear c8
                by_cases c9 : x21_2 < (l0.length : Int)
                · rw [if_pos c9] at H
                  have c9b0 : decide (x21_2 < (l0.length : Int)) = true := decide_eq_true c9
                  clear c9
                  by_cases c10 : 0 ≤ a2
                  · rw [if_pos c10] at H
                    have c10b0 := eq_true c10
                    have c10b1 : decide (0 ≤ a2) = true := decide_eq_true c10
                    clear c10
                    by_cases c11 : a2 ≤ (l1.length : Int)
                    · rw [if_pos c11] at H
                      have c11b0 := eq_true c11
                      have c11b1 : decide (a2 ≤ (l1.length : Int)) = true := decide_eq_true c11
                      clear c11
                      obtain ⟨y167, hy167⟩ : ∃ y_ : List Int, y_ = (l1.drop (a2 : Int).toNat) := ⟨_, rfl⟩
                      replace H : ((seqs_fits.f (rd_L2 l0 x21_2) y167).bind fun t171 => (seqs_Part.l0 k2 l1 a2 (mx x7_2 t171) l0 (l0.length : Int) (wrap64 (x21_2 + 1)))) = some r := by first | (rw [hy167]; with_reducible exact H) | (have H2_ := (Option.bind_some _ _).symm.trans H; rw [hy167]; with_reducible exact H2_) | (have H2_ := (Option.bind_some _ _).symm.trans H; with_reducible exact H2_) | with_reducible exact H | (rw [hy167]; exact H) | exact H
                      have Ny167 := Aside0.mk hy167
                      clear hy167
                      replace H := Option.bind_eq_some_iff.mp H
                      obtain ⟨t171, A120, H⟩ := H
                      replace H : (seqs_Part.l0 k2 l1 a2 (mx x7_2 t171) l0 (l0.length : Int) (wrap64 (x21_2 + 1))) = some r := H
                      have A12 := Aside0.mk A120
                      clear A120
                      obtain ⟨ji13, hji13⟩ : ∃ j_ : Int, (mx x7_2 t171) = j_ := ⟨_, rfl⟩
                      replace H : (seqs_Part.l0 k2 l1 a2 ji13 l0 (l0.length : Int) (wrap64 (x21_2 + 1))) = some r := by first | (rw [hji13] at H; exact H) | (simp only [hji13] at H ⊢; exact H)
                      (try rw [hji13] at A12)
                      have hji13_ : (if x7_2 < t171 then t171 else x7_2) = ji13 := hji13
                      have H' := Aside0.mk H
                      clear H
                      have p166 : 0 ≤ (x21_2 : Int) := of_decide_eq_true (by first | (with_reducible assumption) | assumption)
                      have q166 : x21_2 < (l0.length : Int) := of_decide_eq_true (by first | (with_reducible assumption) | assumption)
                      obtain ⟨ad166, A166_0, c166_0, e166, hx166_0, hl166_0, hi166_0⟩ := at_L2 HR0.out x21_2 p166 q166
                      cases e166
                      replace hx166_0 := (HB.out.cell (World.block_lt_of_cell? w _ hx166_0)).trans hx166_0
                      have HR166_0 := Aside0.mk hi166_0
                      have HC166_0 := Aside0.mk hl166_0
                      clear hi166_0 hl166_0
                      replace p166 := eq_true p166
                      replace q166 := eq_true q166
                      have q14 : (a2 : Int) ≤ ((l1.length : Int) : Int) := of_decide_eq_true (by first | (with_reducible assumption) | assumption)
                      obtain ⟨i014, hi014, _, hsz14, _⟩ := info_parts info5
                      have hroom14 : l1.length ≤ c1 := HC1.out
                      have hC14 : Kd.C (Kd.int .u8) _ A1 l1.length l1 := HR1.out
                      have q014 : (0 : Int) ≤ (a2 : Int) := of_decide_eq_true (by first | (with_reducible assumption) | assumption)
                      have hcut14 := cut_from (P := Try.prog) 24 5 .i64 Try.underlying24 hi014 1 hsz14 A1 l1.length c1 a2 q014 q14
                      have hr14 := Kd.C_drop (m := (a2 : Int).toNat) (c := c1) hC14 (by omega) hroom14
                      obtain ⟨A14, hA14⟩ : ∃ A1_, A1_ = (if c1 = (a2 : Int).toNat then A1 else (A1 : Option Addr).map (·.add ((a2 : Int).toNat * 1))) := ⟨_, rfl⟩
                      obtain ⟨c14, hc14⟩ : ∃ c1_, c1_ = c1 - (a2 : Int).toNat := ⟨_, rfl⟩
                      have hy14 : y167.length = l1.length - (a2 : Int).toNat := (by rw [Ny167.out, List.length_drop] <;> omega)
                      rw [show (l1).drop (a2 : Int).toNat = y167 from Ny167.out.symm] at hr14
                      replace hr14 : Kd.C (Kd.int .u8) _ A14 y167.length y167 := (by rw [hA14]; exact hr14)
                      rw [← hy14, ← hA14, ← hc14] at hcut14
                      have HR170 := Aside0.mk hr14
                      have HC170 := Aside0.mk (show y167.length ≤ c14 from by rw [hy14, hc14]; exact Nat.sub_le_sub_right hroom14 _)
                      clear hr14 hC14 hroom14 hi014 hsz14 hc14
                      have KY14 := Aside0.mk hy14
                      have KA14 := Aside0.mk hA14
                      clear hy14 hA14
                      replace q14 := eq_true q14
                      go_wp2_with (first | ((with_reducible refine gate_callee (f := 40) rfl ?_); refine goesL_ (some 30) rfl rfl Try.func40 (by kernel_rfl) rfl #[.slice A166_0 (rd_L2 l0 x21_2).length c166_0, .slice A14 y167.length c14] rfl (by (try simp only [List.map_toArray, List.map_cons, List.map_nil]); first | done | rfl | (simp only [List.length_drop, List.length_take]; rfl)) ?_; (with_reducible refine (seqs_fits.calls _ _ (rd_L2 l0 x21_2) _ _ y167 t171 _ ?side1 ?side2 ?side3 ?side4 A12.out).mono ?_); (case side1 => repeat (first | exact (Kd.C_below HR166_0.out HB.out) | (with_reducible refine Kd.C_alloc ?_ _) | (with_reducible refine Kd.C_drewN ?_ _) | (with_reducible refine Kd.C_drew ?_))); (case side2 => exact HC166_0.out); (case side3 => repeat (first | exact (Kd.C_below HR170.out HB.out) | (with_reducible refine Kd.C_alloc ?_ _) | (with_reducible refine Kd.C_drewN ?_ _) | (with_reducible refine Kd.C_drew ?_))); (case side4 => exact HC170.out); rintro e w15 ⟨rfl, hb⟩; refine ⟨_, rfl, ?_⟩; have n0_ := Aside0.mk (below_step (by repeat (first | (with_reducible first | exact HB.out | apply below_alloc | apply pw_below_drewN | apply below_drew1) | exact HB.out)) hb); clear HB; have HB := n0_; clear n0_; (try clear hb); (try clear hb2); (try clear hk); (try clear hi)))
                      go_roundg k2
                      case measure => have := HJ3.out; have := HK2.out; omega
                      case rel => exact ⟨(ji13), (wrap64 (x21_2 + 1)), (by first | rfl | (simp; done) | (simp only [← hji13] <;> (first | rfl | simp)) | (simp [*]; done)), (by first | rfl | (simp; done) | (simp [*]; done) | (simp [*, bne]; done)), (by first | exact H' | (subst hji13; exact H')), ⟨by have := HJ3.out; have := HK2.out; omega⟩, ⟨by repeat (first | (with_reducible first | exact HB.out | apply below_alloc | apply pw_below_drewN | apply below_drew1) | exact HB.out)⟩⟩
                    · rw [if_neg c11] at H
                      exact absurd H (by simp)
                  · rw [if_neg c10] at H
                    exact absurd H (by simp)
                · rw [if_neg c9] at H
                  exact absurd H (by simp)
              · rw [if_neg c8] at H
                exact absurd H (by simp)
            · rw [if_neg c7] at H
              have c7b0 : decide (x21_2 < (l0.length : Int)) = false := decide_eq_false c7
              clear c7
              obtain rfl := Option.some.inj H
              go_wp2
              go_ret
              exact ⟨by first | rfl | (simp [errW_none, errW_some] <;> rfl) | (simp [*, errW_none, errW_some] <;> rfl), by repeat (first | (with_reducible first | exact HB.out | apply below_alloc | apply pw_below_drewN | apply below_drew1) | exact HB.out)⟩

/-! ### exegetelaw03_awake: function 14 -/
def exegetelaw03_awake.f (k : Nat)  : Option (Bool) := (seqs_Of.f k (([(⟨128, 2047⟩ : S35)] : List (S35)))).bind fun t175 => (if (t175.length : Int) = 1 then (if 0 < (t175.length : Int) then (if ((rd_L2 t175 0).length : Int) = 2 then (if 0 < ((rd_L2 t175 0).length : Int) then (if (((rd_T35 (rd_L2 t175 0) 0).f0) == 194 && (((rd_T35 (rd_L2 t175 0) 0).f1) == 223)) = true then (if 1 < ((rd_L2 t175 0).length : Int) then (if (((rd_T35 (rd_L2 t175 0) 1).f0) == 128 && (((rd_T35 (rd_L2 t175 0) 1).f1) == 191)) = true then ((seqs_Match.f k t175 (([195, 164] : List Int)) 0).bind fun t186 => (if t186 = 2 then ((seqs_Part.f k t175 (([195] : List Int)) 0).bind fun t190 => (some (t190 == 1))) else (some false))) else (some false)) else (none)) else (some false)) else (none)) else (some false)) else (none)) else (some false))
theorem exegetelaw03_awake.mono : ∀ k, LeO (exegetelaw03_awake.f k ) (exegetelaw03_awake.f (k + 1) ) := by
  intro  k
  unfold exegetelaw03_awake.f
  repeat' first
      | (with_reducible exact seqs_Match.mono _ _ _ _)
      | (with_reducible exact seqs_Of.mono _ _)
      | (with_reducible exact seqs_Part.mono _ _ _ _)
      | (with_reducible exact LeO.refl _)
      | (with_reducible exact LeO.none _)
      | (with_reducible refine LeO.ite ?_ ?_)
      | (with_reducible refine LeO.bind ?_ (fun _ => ?_))
      | exact seqs_Match.mono _ _ _ _
      | exact seqs_Of.mono _ _
      | exact seqs_Part.mono _ _ _ _
      | exact LeO.none _
      | refine LeO.ite ?_ ?_
      | refine LeO.bind ?_ (fun _ => ?_)
set_option maxHeartbeats 8000000 in
set_option maxRecDepth 100000 in
theorem exegetelaw03_awake.calls (k : Nat)  (r : Bool) (w : World) (h : exegetelaw03_awake.f k  = some r) :
    Calls Try.prog 14 #[] w fun e w' => e = .returned (.bool r) ∧ Below w.heap.size w w' := by
  have hu35 := Try.underlying35
  have HB := Aside0.mk (Below.refl w.heap.size w)
  have H : ((seqs_Of.f k (([(⟨128, 2047⟩ : S35)] : List (S35)))).bind fun t175 => (if (t175.length : Int) = 1 then (if 0 < (t175.length : Int) then (if ((rd_L2 t175 0).length : Int) = 2 then (if 0 < ((rd_L2 t175 0).length : Int) then (if (((rd_T35 (rd_L2 t175 0) 0).f0) == 194 && (((rd_T35 (rd_L2 t175 0) 0).f1) == 223)) = true then (if 1 < ((rd_L2 t175 0).length : Int) then (if (((rd_T35 (rd_L2 t175 0) 1).f0) == 128 && (((rd_T35 (rd_L2 t175 0) 1).f1) == 191)) = true then ((seqs_Match.f k t175 (([195, 164] : List Int)) 0).bind fun t186 => (if t186 = 2 then ((seqs_Part.f k t175 (([195] : List Int)) 0).bind fun t190 => (some (t190 == 1))) else (some false))) else (some false)) else (none)) else (some false)) else (none)) else (some false)) else (none)) else (some false))) = some r := h
  clear h
  obtain ⟨y172, hy172⟩ : ∃ y_ : List (S35), y_ = (([(⟨128, 2047⟩ : S35)] : List (S35))) := ⟨_, rfl⟩
  replace H : ((seqs_Of.f k y172).bind fun t175 => (if (t175.length : Int) = 1 then (if 0 < (t175.length : Int) then (if ((rd_L2 t175 0).length : Int) = 2 then (if 0 < ((rd_L2 t175 0).length : Int) then (if (((rd_T35 (rd_L2 t175 0) 0).f0) == 194 && (((rd_T35 (rd_L2 t175 0) 0).f1) == 223)) = true then (if 1 < ((rd_L2 t175 0).length : Int) then (if (((rd_T35 (rd_L2 t175 0) 1).f0) == 128 && (((rd_T35 (rd_L2 t175 0) 1).f1) == 191)) = true then ((seqs_Match.f k t175 (([195, 164] : List Int)) 0).bind fun t186 => (if t186 = 2 then ((seqs_Part.f k t175 (([195] : List Int)) 0).bind fun t190 => (some (t190 == 1))) else (some false))) else (some false)) else (none)) else (some false)) else (none)) else (some false)) else (none)) else (some false))) = some r := by first | (rw [hy172]; with_reducible exact H) | (have H2_ := (Option.bind_some _ _).symm.trans H; rw [hy172]; with_reducible exact H2_) | (have H2_ := (Option.bind_some _ _).symm.trans H; with_reducible exact H2_) | with_reducible exact H | (rw [hy172]; exact H) | exact H
  have Ny172 := Aside0.mk hy172
  clear hy172
  replace H := Option.bind_eq_some_iff.mp H
  obtain ⟨t175, A10, H⟩ := H
  replace H : (if (t175.length : Int) = 1 then (if 0 < (t175.length : Int) then (if ((rd_L2 t175 0).length : Int) = 2 then (if 0 < ((rd_L2 t175 0).length : Int) then (if (((rd_T35 (rd_L2 t175 0) 0).f0) == 194 && (((rd_T35 (rd_L2 t175 0) 0).f1) == 223)) = true then (if 1 < ((rd_L2 t175 0).length : Int) then (if (((rd_T35 (rd_L2 t175 0) 1).f0) == 128 && (((rd_T35 (rd_L2 t175 0) 1).f1) == 191)) = true then ((seqs_Match.f k t175 (([195, 164] : List Int)) 0).bind fun t186 => (if t186 = 2 then ((seqs_Part.f k t175 (([195] : List Int)) 0).bind fun t190 => (some (t190 == 1))) else (some false))) else (some false)) else (none)) else (some false)) else (none)) else (some false)) else (none)) else (some false)) = some r := H
  have A1 := Aside0.mk A10
  clear A10
  by_cases c2 : (t175.length : Int) = 1
  · rw [if_pos c2] at H
    have c2b0 : ((t175.length : Int) == 1) = true := beq_iff_eq.mpr c2
    have c2b1 : ((t175.length : Int) != 1) = false := bne_eq_false_iff_eq.mpr c2
    clear c2
    by_cases c3 : 0 < (t175.length : Int)
    · rw [if_pos c3] at H
      have c3b0 : decide (0 < (t175.length : Int)) = true := decide_eq_true c3
      have c3b1 : decide (0 < t175.length) = true := decide_eq_true (by omega)
      clear c3
      by_cases c4 : ((rd_L2 t175 0).length : Int) = 2
      · rw [if_pos c4] at H
        have c4b0 : (((rd_L2 t175 0).length : Int) == 2) = true := beq_iff_eq.mpr c4
        have c4b1 : (((rd_L2 t175 0).length : Int) != 2) = false := bne_eq_false_iff_eq.mpr c4
        clear c4
        by_cases c5 : 0 < ((rd_L2 t175 0).length : Int)
        · rw [if_pos c5] at H
          have c5b0 : decide (0 < ((rd_L2 t175 0).length : Int)) = true := decide_eq_true c5
          have c5b1 : decide (0 < (rd_L2 t175 0).length) = true := decide_eq_true (by omega)
          clear c5
          by_cases c6 : (((rd_T35 (rd_L2 t175 0) 0).f0) == 194 && (((rd_T35 (rd_L2 t175 0) 0).f1) == 223)) = true
          · rw [if_pos c6] at H
            have c6b0 : (((rd_T35 (rd_L2 t175 0) 0).f0) == 194 && (((rd_T35 (rd_L2 t175 0) 0).f1) == 223)) = true := c6
            (try (have c6b1 : decide (((rd_T35 (rd_L2 t175 0) 0).f0) = 194 && (((rd_T35 (rd_L2 t175 0) 0).f1) == 223)) = true := by simpa using c6))
            (try (have c6b2 : (((rd_T35 (rd_L2 t175 0) 0).f0) == 194 && (((rd_T35 (rd_L2 t175 0) 0).f1) == 223)) = true := by simpa using c6))
            clear c6
            by_cases c7 : 1 < ((rd_L2 t175 0).length : Int)
            · rw [if_pos c7] at H
              have c7b0 : decide (1 < ((rd_L2 t175 0).length : Int)) = true := decide_eq_true c7
              have c7b1 : decide (1 < (rd_L2 t175 0).length) = true := decide_eq_true (by omega)
              clear c7
              by_cases c8 : (((rd_T35 (rd_L2 t175 0) 1).f0) == 128 && (((rd_T35 (rd_L2 t175 0) 1).f1) == 191)) = true
              · rw [if_pos c8] at H
                have c8b0 : (((rd_T35 (rd_L2 t175 0) 1).f0) == 128 && (((rd_T35 (rd_L2 t175 0) 1).f1) == 191)) = true := c8
                (try (have c8b1 : decide (((rd_T35 (rd_L2 t175 0) 1).f0) = 128 && (((rd_T35 (rd_L2 t175 0) 1).f1) == 191)) = true := by simpa using c8))
                (try (have c8b2 : (((rd_T35 (rd_L2 t175 0) 1).f0) == 128 && (((rd_T35 (rd_L2 t175 0) 1).f1) == 191)) = true := by simpa using c8))
                clear c8
                obtain ⟨y183, hy183⟩ : ∃ y_ : List Int, y_ = (([195, 164] : List Int)) := ⟨_, rfl⟩
                replace H : ((seqs_Match.f k t175 y183 0).bind fun t186 => (if t186 = 2 then ((seqs_Part.f k t175 (([195] : List Int)) 0).bind fun t190 => (some (t190 == 1))) else (some false))) = some r := by first | (rw [hy183]; with_reducible exact H) | (have H2_ := (Option.bind_some _ _).symm.trans H; rw [hy183]; with_reducible exact H2_) | (have H2_ := (Option.bind_some _ _).symm.trans H; with_reducible exact H2_) | with_reducible exact H | (rw [hy183]; exact H) | exact H
                have Ny183 := Aside0.mk hy183
                clear hy183
                replace H := Option.bind_eq_some_iff.mp H
                obtain ⟨t186, A90, H⟩ := H
                replace H : (if t186 = 2 then ((seqs_Part.f k t175 (([195] : List Int)) 0).bind fun t190 => (some (t190 == 1))) else (some false)) = some r := H
                have A9 := Aside0.mk A90
                clear A90
                by_cases c10 : t186 = 2
                · rw [if_pos c10] at H
                  have c10b0 : (t186 == 2) = true := beq_iff_eq.mpr c10
                  have c10b1 : (t186 != 2) = false := bne_eq_false_iff_eq.mpr c10
                  clear c10
                  obtain ⟨y187, hy187⟩ : ∃ y_ : List Int, y_ = (([195] : List Int)) := ⟨_, rfl⟩
                  replace H : ((seqs_Part.f k t175 y187 0).bind fun t190 => (some (t190 == 1))) = some r := by first | (rw [hy187]; with_reducible exact H) | (have H2_ := (Option.bind_some _ _).symm.trans H; rw [hy187]; with_reducible exact H2_) | (have H2_ := (Option.bind_some _ _).symm.trans H; with_reducible exact H2_) | with_reducible exact H | (rw [hy187]; exact H) | exact H
                  have Ny187 := Aside0.mk hy187
                  clear hy187
                  replace H := Option.bind_eq_some_iff.mp H
                  obtain ⟨t190, A110, H⟩ := H
                  replace H : (some (t190 == 1)) = some r := H
                  have A11 := Aside0.mk A110
                  clear A110
                  obtain rfl := Option.some.inj H
                  go_enter Try.func14, Try.ntmps14
                  go_wp2_with (first | ((with_reducible refine gate_dst (N := 3) rfl ?_); (try (refine gate_guard (by rfl) ?_; dsimp only)); refine Kd.R_lit k35 _ 35 ?hg (N := 3) ?hd (xs := ([(⟨128, 2047⟩ : S35)] : List (S35))) (inner := [.int .i64 128, .int .i64 2047]) (ok := fun _ => True) (okp := fun _ => True) ?hr ?hp (fun _ hk => hk) trivial (Below.refl _ _) (Nat.le_refl _) (by simp) ?_; (case hd => rfl); (case hg => rfl); (case hr => first | (go_simp; done) | (go_simp; rfl)); (case hp => exact (Reps.c2 (show Kd.M k35 _ _ _ (⟨128, 2047⟩ : S35) [.int .i64 128, .int .i64 2047] from (k35_mkM _ _ _ (⟨128, 2047⟩ : S35) )) (Reps.none _ _))); intro v173 w12 ho13 hb hg_ hnew_; clear hg_ hnew_; (first | rw [← Ny172.out] at ho13 | (simp only [Int.reduceToNat] at ho13; rw [← Ny172.out] at ho13)); have n0_ := Aside0.mk (Kd.R_lower ho13 (below_size (by repeat (first | (with_reducible first | exact HB.out | apply below_alloc | apply pw_below_drewN | apply below_drew1) | exact HB.out)))); have n1_ := Aside0.mk (below_step (by repeat (first | (with_reducible first | exact HB.out | apply below_alloc | apply pw_below_drewN | apply below_drew1) | exact HB.out)) hb); clear HB; have HO174 := n0_; have HB := n1_; clear n0_ n1_; clear hb ho13; obtain ⟨Ao14, co14, eo14⟩ := Kd.R_slice HO174.out; subst eo14) | ((with_reducible refine gate_callee (f := 16) rfl ?_); refine goesL_ (some 4) rfl rfl Try.func16 (by kernel_rfl) rfl #[.slice Ao14 y172.length co14] rfl (by (try simp only [List.map_toArray, List.map_cons, List.map_nil]); first | done | rfl | (simp only [List.length_drop, List.length_take]; rfl)) ?_; (with_reducible refine (seqs_Of.calls k _ _ y172 t175 _ ?side1 ?side2 A1.out).mono ?_); (case side1 => repeat (first | exact (Kd.R_reads' HO174.out).2.2 | (with_reducible refine Kd.C_alloc ?_ _) | (with_reducible refine Kd.C_drewN ?_ _) | (with_reducible refine Kd.C_drew ?_))); (case side2 => exact (Kd.R_reads' HO174.out).2.1); rintro e w15 ⟨v176, rfl, ho0, hb⟩; refine ⟨_, rfl, ?_⟩; have n0_ := Aside0.mk (Kd.R_below (by (with_reducible repeat (first | apply Kd.R_alloc | apply Kd.R_drewN | apply Kd.R_drew)); exact HO174.out) hb); have n1_ := Aside0.mk (Kd.S_lower (Kd.S_new' ho0 (Kd.R_lt (by (with_reducible repeat (first | apply Kd.R_alloc | apply Kd.R_drewN | apply Kd.R_drew)); exact HO174.out))) (below_size (by repeat (first | (with_reducible first | exact HB.out | apply below_alloc | apply pw_below_drewN | apply below_drew1) | exact HB.out)))); have n2_ := Aside0.mk (below_step (by repeat (first | (with_reducible first | exact HB.out | apply below_alloc | apply pw_below_drewN | apply below_drew1) | exact HB.out)) hb); clear HO174; clear HB; have HO174 := n0_; have HO177 := n1_; have HB := n2_; clear n0_ n1_ n2_; (try clear hb); (try clear hb2); (try clear hk); (try clear hi); (try clear ho0); obtain ⟨Ao16, co16, eo16⟩ := Kd.S_slice HO177.out; subst eo16; have p178 : 0 ≤ (0 : Int) := (by omega); have q178 : 0 < (t175.length : Int) := of_decide_eq_true (by first | (with_reducible assumption) | assumption); obtain ⟨ad178, A178_0, c178_0, e178, hx178_0, hl178_0, hi178_0⟩ := at_L2 (Kd.S_reads' HO177.out).2.2 0 p178 q178; cases e178; obtain ⟨ce178, hce178, hMe178, hcc178⟩ := Kd.S_get HO177.out [] 0 p178 (by first | exact q178 | exact of_decide_eq_true (by first | (with_reducible assumption) | assumption) | (have e_ := (Kd.S_reads' HO177.out).1; omega)); obtain ⟨ve178_0, rfl, ge178_0⟩ := hMe178; have hv178_0 := hcc178 0 _ rfl; rw [Nat.add_zero, show ((Kd.slice 35 k35)).sz = 1 from rfl, Nat.mul_one] at hv178_0; replace hv178_0 := Option.some.inj (hv178_0.symm.trans hx178_0); rw [hv178_0] at ge178_0; have HL178_0 := Aside0.mk (show Kd.R k35 35 _ _ _ _ (rd_L2 t175 0) from ge178_0); clear hv178_0 ge178_0; clear hcc178 hce178; have qi178 : (0 < t175.length) = True := eq_true (by omega); (try rw [show ((0 : Int)).toNat = 0 from rfl] at hx178_0); (try rw [Addr.add_zero'] at hx178_0); have HR178_0 := Aside0.mk hi178_0; have HC178_0 := Aside0.mk hl178_0; clear hi178_0 hl178_0; replace p178 := eq_true p178; replace q178 := eq_true q178; have p179 : 0 ≤ (0 : Int) := (by omega); have q179 : 0 < (t175.length : Int) := of_decide_eq_true (by first | (with_reducible assumption) | assumption); obtain ⟨ad179, A179_0, c179_0, e179, hx179_0, hl179_0, hi179_0⟩ := at_L2 (Kd.S_reads' HO177.out).2.2 0 p179 q179; obtain rfl : ad178 = ad179 := (by injection e179); obtain ⟨ce179, hce179, hMe179, hcc179⟩ := Kd.S_get HO177.out [] 0 p179 (by first | exact q179 | exact of_decide_eq_true (by first | (with_reducible assumption) | assumption) | (have e_ := (Kd.S_reads' HO177.out).1; omega)); obtain ⟨ve179_0, rfl, ge179_0⟩ := hMe179; have hv179_0 := hcc179 0 _ rfl; rw [Nat.add_zero, show ((Kd.slice 35 k35)).sz = 1 from rfl, Nat.mul_one] at hv179_0; replace hv179_0 := Option.some.inj (hv179_0.symm.trans hx179_0); rw [hv179_0] at ge179_0; have HL179_0 := Aside0.mk (show Kd.R k35 35 _ _ _ _ (rd_L2 t175 0) from ge179_0); clear hv179_0 ge179_0; clear hcc179 hce179; have qi179 : (0 < t175.length) = True := eq_true (by omega); (try rw [show ((0 : Int)).toNat = 0 from rfl] at hx179_0); (try rw [Addr.add_zero'] at hx179_0); have HR179_0 := Aside0.mk hi179_0; have HC179_0 := Aside0.mk hl179_0; clear hi179_0 hl179_0; replace p179 := eq_true p179; replace q179 := eq_true q179; have ea_ := Option.some.inj (hx178_0.symm.trans hx179_0); injection ea_ with ea_ en_ ec_; subst ea_; subst ec_; clear en_; have p180 : 0 ≤ (0 : Int) := (by omega); have q180 : 0 < ((rd_L2 t175 0).length : Int) := of_decide_eq_true (by first | (with_reducible assumption) | assumption); obtain ⟨ad180, e180, hx180_0, hx180_1⟩ := at_T35 (by repeat (first | (with_reducible exact HR179_0.out) | (with_reducible refine Kd.C_alloc ?_ _) | (with_reducible refine Kd.C_drewN ?_ _) | (with_reducible refine Kd.C_drew ?_) | exact HR179_0.out)) 0 p180 q180; cases e180; have qi180 : (0 < (rd_L2 t175 0).length) = True := eq_true (by omega); (try rw [show ((0 : Int)).toNat = 0 from rfl] at hx180_0); (try rw [show 0 * 2 = 0 from rfl] at hx180_0); (try rw [Addr.add_zero'] at hx180_0); (try rw [show ((0 : Int)).toNat = 0 from rfl] at hx180_1); (try rw [show 0 * 2 = 0 from rfl] at hx180_1); (try rw [Addr.add_zero'] at hx180_1); replace p180 := eq_true p180; replace q180 := eq_true q180; have p181 : 0 ≤ (0 : Int) := (by omega); have q181 : 0 < (t175.length : Int) := of_decide_eq_true (by first | (with_reducible assumption) | assumption); obtain ⟨ad181, A181_0, c181_0, e181, hx181_0, hl181_0, hi181_0⟩ := at_L2 (Kd.S_reads' HO177.out).2.2 0 p181 q181; obtain rfl : ad178 = ad181 := (by injection e181); obtain ⟨ce181, hce181, hMe181, hcc181⟩ := Kd.S_get HO177.out [] 0 p181 (by first | exact q181 | exact of_decide_eq_true (by first | (with_reducible assumption) | assumption) | (have e_ := (Kd.S_reads' HO177.out).1; omega)); obtain ⟨ve181_0, rfl, ge181_0⟩ := hMe181; have hv181_0 := hcc181 0 _ rfl; rw [Nat.add_zero, show ((Kd.slice 35 k35)).sz = 1 from rfl, Nat.mul_one] at hv181_0; replace hv181_0 := Option.some.inj (hv181_0.symm.trans hx181_0); rw [hv181_0] at ge181_0; have HL181_0 := Aside0.mk (show Kd.R k35 35 _ _ _ _ (rd_L2 t175 0) from ge181_0); clear hv181_0 ge181_0; clear hcc181 hce181; have qi181 : (0 < t175.length) = True := eq_true (by omega); (try rw [show ((0 : Int)).toNat = 0 from rfl] at hx181_0); (try rw [Addr.add_zero'] at hx181_0); have HR181_0 := Aside0.mk hi181_0; have HC181_0 := Aside0.mk hl181_0; clear hi181_0 hl181_0; replace p181 := eq_true p181; replace q181 := eq_true q181; have ea_ := Option.some.inj (hx178_0.symm.trans hx181_0); injection ea_ with ea_ en_ ec_; subst ea_; subst ec_; clear en_; have p182 : 0 ≤ (1 : Int) := (by omega); have q182 : 1 < ((rd_L2 t175 0).length : Int) := of_decide_eq_true (by first | (with_reducible assumption) | assumption); obtain ⟨ad182, e182, hx182_0, hx182_1⟩ := at_T35 (by repeat (first | (with_reducible exact HR181_0.out) | (with_reducible refine Kd.C_alloc ?_ _) | (with_reducible refine Kd.C_drewN ?_ _) | (with_reducible refine Kd.C_drew ?_) | exact HR181_0.out)) 1 p182 q182; cases e182; (try simp only [show (1 : Int).toNat = 1 from rfl, Nat.reduceMul, Nat.reduceEqDiff, Go.Addr.add, ↓reduceIte] at hx182_0); (try simp only [show (1 : Int).toNat = 1 from rfl, Nat.reduceMul, Nat.reduceEqDiff, Go.Addr.add, ↓reduceIte] at hx182_1); have qi182 : (1 < (rd_L2 t175 0).length) = True := eq_true (by omega); (try rw [show ((1 : Int)).toNat = 1 from rfl] at hx182_0); (try rw [show 1 * 2 = 2 from rfl] at hx182_0); (try rw [show ((1 : Int)).toNat = 1 from rfl] at hx182_1); (try rw [show 1 * 2 = 2 from rfl] at hx182_1); replace p182 := eq_true p182; replace q182 := eq_true q182) | ((with_reducible refine gate_dst (N := 35) rfl ?_); (try (refine gate_guard (by rfl) ?_; dsimp only)); refine Kd.R_lit (Kd.int .u8) _ 5 ?hg (N := 35) ?hd (xs := ([195, 164] : List Int)) (inner := [.int .u8 195, .int .u8 164]) (ok := fun _ => True) (okp := fun _ => True) ?hr ?hp (fun _ hk => hk) trivial (Below.refl _ _) (Nat.le_refl _) (by simp) ?_; (case hd => rfl); (case hg => rfl); (case hr => first | (go_simp; done) | (go_simp; rfl)); (case hp => exact (Reps.one (show Kd.M (Kd.int .u8) _ _ _ 195 [.int .u8 195] from rfl) (Reps.one (show Kd.M (Kd.int .u8) _ _ _ 164 [.int .u8 164] from rfl) (Reps.none _ _)))); intro v184 w17 ho18 hb hg_ hnew_; clear hg_ hnew_; (first | rw [← Ny183.out] at ho18 | (simp only [Int.reduceToNat] at ho18; rw [← Ny183.out] at ho18)); have n0_ := Aside0.mk (Kd.R_below (by (with_reducible repeat (first | apply Kd.R_alloc | apply Kd.R_drewN | apply Kd.R_drew)); exact HO174.out) hb); have n1_ := Aside0.mk (Kd.S_below (by (with_reducible repeat (first | apply Kd.S_alloc | apply Kd.S_drewN | apply Kd.S_drew)); exact HO177.out) hb); have n2_ := Aside0.mk (Kd.R_below (by (with_reducible repeat (first | apply Kd.R_alloc | apply Kd.R_drewN | apply Kd.R_drew)); exact HL178_0.out) hb); have n3_ := Aside0.mk (Kd.R_below (by (with_reducible repeat (first | apply Kd.R_alloc | apply Kd.R_drewN | apply Kd.R_drew)); exact HL179_0.out) hb); have n4_ := Aside0.mk (Kd.R_below (by (with_reducible repeat (first | apply Kd.R_alloc | apply Kd.R_drewN | apply Kd.R_drew)); exact HL181_0.out) hb); have n5_ := Aside0.mk (Kd.R_lower ho18 (below_size (by repeat (first | (with_reducible first | exact HB.out | apply below_alloc | apply pw_below_drewN | apply below_drew1) | exact HB.out)))); have n6_ := Aside0.mk (Kd.C_below (by repeat (first | (with_reducible exact HR178_0.out) | (with_reducible refine Kd.C_alloc ?_ _) | (with_reducible refine Kd.C_drewN ?_ _) | (with_reducible refine Kd.C_drew ?_) | exact HR178_0.out)) hb); have n7_ := Aside0.mk (Kd.C_below (by repeat (first | (with_reducible exact HR179_0.out) | (with_reducible refine Kd.C_alloc ?_ _) | (with_reducible refine Kd.C_drewN ?_ _) | (with_reducible refine Kd.C_drew ?_) | exact HR179_0.out)) hb); have n8_ := Aside0.mk (Kd.C_below (by repeat (first | (with_reducible exact HR181_0.out) | (with_reducible refine Kd.C_alloc ?_ _) | (with_reducible refine Kd.C_drewN ?_ _) | (with_reducible refine Kd.C_drew ?_) | exact HR181_0.out)) hb); have n9_ := Aside0.mk (below_step (by repeat (first | (with_reducible first | exact HB.out | apply below_alloc | apply pw_below_drewN | apply below_drew1) | exact HB.out)) hb); clear HO174; clear HO177; clear HL178_0; clear HL179_0; clear HL181_0; clear HR178_0; clear HR179_0; clear HR181_0; clear HB; have HO174 := n0_; have HO177 := n1_; have HL178_0 := n2_; have HL179_0 := n3_; have HL181_0 := n4_; have HO185 := n5_; have HR178_0 := n6_; have HR179_0 := n7_; have HR181_0 := n8_; have HB := n9_; clear n0_ n1_ n2_ n3_ n4_ n5_ n6_ n7_ n8_ n9_; clear hb ho18; obtain ⟨Ao19, co19, eo19⟩ := Kd.R_slice HO185.out; subst eo19) | (go_at_call 17; (with_reducible refine (seqs_Match.calls k _ _ t175 _ _ y183 0 t186 _ ?side1 ?side2 ?side3 ?side4 A9.out).mono ?_); (case side1 => repeat (first | exact (Kd.S_reads' HO177.out).2.2 | (with_reducible refine Kd.C_alloc ?_ _) | (with_reducible refine Kd.C_drewN ?_ _) | (with_reducible refine Kd.C_drew ?_))); (case side2 => exact (Kd.S_reads' HO177.out).2.1); (case side3 => repeat (first | exact (Kd.R_reads' HO185.out).2.2 | (with_reducible refine Kd.C_alloc ?_ _) | (with_reducible refine Kd.C_drewN ?_ _) | (with_reducible refine Kd.C_drew ?_))); (case side4 => exact (Kd.R_reads' HO185.out).2.1); rintro e w20 ⟨rfl, hb⟩; have n0_ := Aside0.mk (Kd.R_below (by (with_reducible repeat (first | apply Kd.R_alloc | apply Kd.R_drewN | apply Kd.R_drew)); exact HO174.out) hb); have n1_ := Aside0.mk (Kd.S_below (by (with_reducible repeat (first | apply Kd.S_alloc | apply Kd.S_drewN | apply Kd.S_drew)); exact HO177.out) hb); have n2_ := Aside0.mk (Kd.R_below (by (with_reducible repeat (first | apply Kd.R_alloc | apply Kd.R_drewN | apply Kd.R_drew)); exact HL178_0.out) hb); have n3_ := Aside0.mk (Kd.R_below (by (with_reducible repeat (first | apply Kd.R_alloc | apply Kd.R_drewN | apply Kd.R_drew)); exact HL179_0.out) hb); have n4_ := Aside0.mk (Kd.R_below (by (with_reducible repeat (first | apply Kd.R_alloc | apply Kd.R_drewN | apply Kd.R_drew)); exact HL181_0.out) hb); have n5_ := Aside0.mk (Kd.R_below (by (with_reducible repeat (first | apply Kd.R_alloc | apply Kd.R_drewN | apply Kd.R_drew)); exact HO185.out) hb); have n6_ := Aside0.mk (Kd.C_below (by repeat (first | (with_reducible exact HR178_0.out) | (with_reducible refine Kd.C_alloc ?_ _) | (with_reducible refine Kd.C_drewN ?_ _) | (with_reducible refine Kd.C_drew ?_) | exact HR178_0.out)) hb); have n7_ := Aside0.mk (Kd.C_below (by repeat (first | (with_reducible exact HR179_0.out) | (with_reducible refine Kd.C_alloc ?_ _) | (with_reducible refine Kd.C_drewN ?_ _) | (with_reducible refine Kd.C_drew ?_) | exact HR179_0.out)) hb); have n8_ := Aside0.mk (Kd.C_below (by repeat (first | (with_reducible exact HR181_0.out) | (with_reducible refine Kd.C_alloc ?_ _) | (with_reducible refine Kd.C_drewN ?_ _) | (with_reducible refine Kd.C_drew ?_) | exact HR181_0.out)) hb); have n9_ := Aside0.mk (below_step (by repeat (first | (with_reducible first | exact HB.out | apply below_alloc | apply pw_below_drewN | apply below_drew1) | exact HB.out)) hb); clear HO174; clear HO177; clear HL178_0; clear HL179_0; clear HL181_0; clear HO185; clear HR178_0; clear HR179_0; clear HR181_0; clear HB; have HO174 := n0_; have HO177 := n1_; have HL178_0 := n2_; have HL179_0 := n3_; have HL181_0 := n4_; have HO185 := n5_; have HR178_0 := n6_; have HR179_0 := n7_; have HR181_0 := n8_; have HB := n9_; clear n0_ n1_ n2_ n3_ n4_ n5_ n6_ n7_ n8_ n9_; (try clear hb); (try clear hb2); (try clear hk); (try clear hi)) | ((with_reducible refine gate_dst (N := 41) rfl ?_); (try (refine gate_guard (by rfl) ?_; dsimp only)); refine Kd.R_lit (Kd.int .u8) _ 5 ?hg (N := 41) ?hd (xs := ([195] : List Int)) (inner := [.int .u8 195]) (ok := fun _ => True) (okp := fun _ => True) ?hr ?hp (fun _ hk => hk) trivial (Below.refl _ _) (Nat.le_refl _) (by simp) ?_; (case hd => rfl); (case hg => rfl); (case hr => first | (go_simp; done) | (go_simp; rfl)); (case hp => exact (Reps.one (show Kd.M (Kd.int .u8) _ _ _ 195 [.int .u8 195] from rfl) (Reps.none _ _))); intro v188 w21 ho22 hb hg_ hnew_; clear hg_ hnew_; (first | rw [← Ny187.out] at ho22 | (simp only [Int.reduceToNat] at ho22; rw [← Ny187.out] at ho22)); have n0_ := Aside0.mk (Kd.R_below (by (with_reducible repeat (first | apply Kd.R_alloc | apply Kd.R_drewN | apply Kd.R_drew)); exact HO174.out) hb); have n1_ := Aside0.mk (Kd.S_below (by (with_reducible repeat (first | apply Kd.S_alloc | apply Kd.S_drewN | apply Kd.S_drew)); exact HO177.out) hb); have n2_ := Aside0.mk (Kd.R_below (by (with_reducible repeat (first | apply Kd.R_alloc | apply Kd.R_drewN | apply Kd.R_drew)); exact HL178_0.out) hb); have n3_ := Aside0.mk (Kd.R_below (by (with_reducible repeat (first | apply Kd.R_alloc | apply Kd.R_drewN | apply Kd.R_drew)); exact HL179_0.out) hb); have n4_ := Aside0.mk (Kd.R_below (by (with_reducible repeat (first | apply Kd.R_alloc | apply Kd.R_drewN | apply Kd.R_drew)); exact HL181_0.out) hb); have n5_ := Aside0.mk (Kd.R_elder' (by (with_reducible repeat (first | apply Kd.R_alloc | apply Kd.R_drewN | apply Kd.R_drew)); exact HO185.out) (Kd.R_base ho22) hb); have n6_ := Aside0.mk (Kd.R_lower (Kd.R_new' ho22 (Kd.R_lt (by (with_reducible repeat (first | apply Kd.R_alloc | apply Kd.R_drewN | apply Kd.R_drew)); exact HO185.out))) (below_size (by repeat (first | (with_reducible first | exact HB.out | apply below_alloc | apply pw_below_drewN | apply below_drew1) | exact HB.out)))); have n7_ := Aside0.mk (Kd.C_below (by repeat (first | (with_reducible exact HR178_0.out) | (with_reducible refine Kd.C_alloc ?_ _) | (with_reducible refine Kd.C_drewN ?_ _) | (with_reducible refine Kd.C_drew ?_) | exact HR178_0.out)) hb); have n8_ := Aside0.mk (Kd.C_below (by repeat (first | (with_reducible exact HR179_0.out) | (with_reducible refine Kd.C_alloc ?_ _) | (with_reducible refine Kd.C_drewN ?_ _) | (with_reducible refine Kd.C_drew ?_) | exact HR179_0.out)) hb); have n9_ := Aside0.mk (Kd.C_below (by repeat (first | (with_reducible exact HR181_0.out) | (with_reducible refine Kd.C_alloc ?_ _) | (with_reducible refine Kd.C_drewN ?_ _) | (with_reducible refine Kd.C_drew ?_) | exact HR181_0.out)) hb); have n10_ := Aside0.mk (below_step (by repeat (first | (with_reducible first | exact HB.out | apply below_alloc | apply pw_below_drewN | apply below_drew1) | exact HB.out)) hb); clear HO174; clear HO177; clear HL178_0; clear HL179_0; clear HL181_0; clear HO185; clear HR178_0; clear HR179_0; clear HR181_0; clear HB; have HO174 := n0_; have HO177 := n1_; have HL178_0 := n2_; have HL179_0 := n3_; have HL181_0 := n4_; have HO185 := n5_; have HO189 := n6_; have HR178_0 := n7_; have HR179_0 := n8_; have HR181_0 := n9_; have HB := n10_; clear n0_ n1_ n2_ n3_ n4_ n5_ n6_ n7_ n8_ n9_ n10_; clear hb ho22; obtain ⟨Ao23, co23, eo23⟩ := Kd.R_slice HO189.out; subst eo23) | (go_at_call 19; (with_reducible refine (seqs_Part.calls k _ _ t175 _ _ y187 0 t190 _ ?side1 ?side2 ?side3 ?side4 A11.out).mono ?_); (case side1 => repeat (first | exact (Kd.S_reads' HO177.out).2.2 | (with_reducible refine Kd.C_alloc ?_ _) | (with_reducible refine Kd.C_drewN ?_ _) | (with_reducible refine Kd.C_drew ?_))); (case side2 => exact (Kd.S_reads' HO177.out).2.1); (case side3 => repeat (first | exact (Kd.R_reads' HO189.out).2.2 | (with_reducible refine Kd.C_alloc ?_ _) | (with_reducible refine Kd.C_drewN ?_ _) | (with_reducible refine Kd.C_drew ?_))); (case side4 => exact (Kd.R_reads' HO189.out).2.1); rintro e w24 ⟨rfl, hb⟩; have n0_ := Aside0.mk (Kd.R_below (by (with_reducible repeat (first | apply Kd.R_alloc | apply Kd.R_drewN | apply Kd.R_drew)); exact HO174.out) hb); have n1_ := Aside0.mk (Kd.S_below (by (with_reducible repeat (first | apply Kd.S_alloc | apply Kd.S_drewN | apply Kd.S_drew)); exact HO177.out) hb); have n2_ := Aside0.mk (Kd.R_below (by (with_reducible repeat (first | apply Kd.R_alloc | apply Kd.R_drewN | apply Kd.R_drew)); exact HL178_0.out) hb); have n3_ := Aside0.mk (Kd.R_below (by (with_reducible repeat (first | apply Kd.R_alloc | apply Kd.R_drewN | apply Kd.R_drew)); exact HL179_0.out) hb); have n4_ := Aside0.mk (Kd.R_below (by (with_reducible repeat (first | apply Kd.R_alloc | apply Kd.R_drewN | apply Kd.R_drew)); exact HL181_0.out) hb); have n5_ := Aside0.mk (Kd.R_below (by (with_reducible repeat (first | apply Kd.R_alloc | apply Kd.R_drewN | apply Kd.R_drew)); exact HO185.out) hb); have n6_ := Aside0.mk (Kd.R_below (by (with_reducible repeat (first | apply Kd.R_alloc | apply Kd.R_drewN | apply Kd.R_drew)); exact HO189.out) hb); have n7_ := Aside0.mk (Kd.C_below (by repeat (first | (with_reducible exact HR178_0.out) | (with_reducible refine Kd.C_alloc ?_ _) | (with_reducible refine Kd.C_drewN ?_ _) | (with_reducible refine Kd.C_drew ?_) | exact HR178_0.out)) hb); have n8_ := Aside0.mk (Kd.C_below (by repeat (first | (with_reducible exact HR179_0.out) | (with_reducible refine Kd.C_alloc ?_ _) | (with_reducible refine Kd.C_drewN ?_ _) | (with_reducible refine Kd.C_drew ?_) | exact HR179_0.out)) hb); have n9_ := Aside0.mk (Kd.C_below (by repeat (first | (with_reducible exact HR181_0.out) | (with_reducible refine Kd.C_alloc ?_ _) | (with_reducible refine Kd.C_drewN ?_ _) | (with_reducible refine Kd.C_drew ?_) | exact HR181_0.out)) hb); have n10_ := Aside0.mk (below_step (by repeat (first | (with_reducible first | exact HB.out | apply below_alloc | apply pw_below_drewN | apply below_drew1) | exact HB.out)) hb); clear HO174; clear HO177; clear HL178_0; clear HL179_0; clear HL181_0; clear HO185; clear HO189; clear HR178_0; clear HR179_0; clear HR181_0; clear HB; have HO174 := n0_; have HO177 := n1_; have HL178_0 := n2_; have HL179_0 := n3_; have HL181_0 := n4_; have HO185 := n5_; have HO189 := n6_; have HR178_0 := n7_; have HR179_0 := n8_; have HR181_0 := n9_; have HB := n10_; clear n0_ n1_ n2_ n3_ n4_ n5_ n6_ n7_ n8_ n9_ n10_; (try clear hb); (try clear hb2); (try clear hk); (try clear hi)))
                  go_ret
                  exact ⟨by first | rfl | (simp [errW_none, errW_some] <;> rfl) | (simp [*, errW_none, errW_some] <;> rfl), by repeat (first | (with_reducible first | exact HB.out | apply below_alloc | apply pw_below_drewN | apply below_drew1) | exact HB.out)⟩
                · rw [if_neg c10] at H
                  have c10b0 : (t186 == 2) = false := beq_eq_false_iff_ne.mpr c10
                  have c10b1 : (t186 != 2) = true := bne_iff_ne.mpr c10
                  obtain rfl := Option.some.inj H
                  go_enter Try.func14, Try.ntmps14
                  go_wp2_with (first | ((with_reducible refine gate_dst (N := 3) rfl ?_); (try (refine gate_guard (by rfl) ?_; dsimp only)); refine Kd.R_lit k35 _ 35 ?hg (N := 3) ?hd (xs := ([(⟨128, 2047⟩ : S35)] : List (S35))) (inner := [.int .i64 128, .int .i64 2047]) (ok := fun _ => True) (okp := fun _ => True) ?hr ?hp (fun _ hk => hk) trivial (Below.refl _ _) (Nat.le_refl _) (by simp) ?_; (case hd => rfl); (case hg => rfl); (case hr => first | (go_simp; done) | (go_simp; rfl)); (case hp => exact (Reps.c2 (show Kd.M k35 _ _ _ (⟨128, 2047⟩ : S35) [.int .i64 128, .int .i64 2047] from (k35_mkM _ _ _ (⟨128, 2047⟩ : S35) )) (Reps.none _ _))); intro v173 w25 ho26 hb hg_ hnew_; clear hg_ hnew_; (first | rw [← Ny172.out] at ho26 | (simp only [Int.reduceToNat] at ho26; rw [← Ny172.out] at ho26)); have n0_ := Aside0.mk (Kd.R_lower ho26 (below_size (by repeat (first | (with_reducible first | exact HB.out | apply below_alloc | apply pw_below_drewN | apply below_drew1) | exact HB.out)))); have n1_ := Aside0.mk (below_step (by repeat (first | (with_reducible first | exact HB.out | apply below_alloc | apply pw_below_drewN | apply below_drew1) | exact HB.out)) hb); clear HB; have HO174 := n0_; have HB := n1_; clear n0_ n1_; clear hb ho26; obtain ⟨Ao27, co27, eo27⟩ := Kd.R_slice HO174.out; subst eo27) | ((with_reducible refine gate_callee (f := 16) rfl ?_); refine goesL_ (some 4) rfl rfl Try.func16 (by kernel_rfl) rfl #[.slice Ao27 y172.length co27] rfl (by (try simp only [List.map_toArray, List.map_cons, List.map_nil]); first | done | rfl | (simp only [List.length_drop, List.length_take]; rfl)) ?_; (with_reducible refine (seqs_Of.calls k _ _ y172 t175 _ ?side1 ?side2 A1.out).mono ?_); (case side1 => repeat (first | exact (Kd.R_reads' HO174.out).2.2 | (with_reducible refine Kd.C_alloc ?_ _) | (with_reducible refine Kd.C_drewN ?_ _) | (with_reducible refine Kd.C_drew ?_))); (case side2 => exact (Kd.R_reads' HO174.out).2.1); rintro e w28 ⟨v176, rfl, ho0, hb⟩; refine ⟨_, rfl, ?_⟩; have n0_ := Aside0.mk (Kd.R_below (by (with_reducible repeat (first | apply Kd.R_alloc | apply Kd.R_drewN | apply Kd.R_drew)); exact HO174.out) hb); have n1_ := Aside0.mk (Kd.S_lower (Kd.S_new' ho0 (Kd.R_lt (by (with_reducible repeat (first | apply Kd.R_alloc | apply Kd.R_drewN | apply Kd.R_drew)); exact HO174.out))) (below_size (by repeat (first | (with_reducible first | exact HB.out | apply below_alloc | apply pw_below_drewN | apply below_drew1) | exact HB.out)))); have n2_ := Aside0.mk (below_step (by repeat (first | (with_reducible first | exact HB.out | apply below_alloc | apply pw_below_drewN | apply below_drew1) | exact HB.out)) hb); clear HO174; clear HB; have HO174 := n0_; have HO177 := n1_; have HB := n2_; clear n0_ n1_ n2_; (try clear hb); (try clear hb2); (try clear hk); (try clear hi); (try clear ho0); obtain ⟨Ao29, co29, eo29⟩ := Kd.S_slice HO177.out; subst eo29; have p178 : 0 ≤ (0 : Int) := (by omega); have q178 : 0 < (t175.length : Int) := of_decide_eq_true (by first | (with_reducible assumption) | assumption); obtain ⟨ad178, A178_0, c178_0, e178, hx178_0, hl178_0, hi178_0⟩ := at_L2 (Kd.S_reads' HO177.out).2.2 0 p178 q178; cases e178; obtain ⟨ce178, hce178, hMe178, hcc178⟩ := Kd.S_get HO177.out [] 0 p178 (by first | exact q178 | exact of_decide_eq_true (by first | (with_reducible assumption) | assumption) | (have e_ := (Kd.S_reads' HO177.out).1; omega)); obtain ⟨ve178_0, rfl, ge178_0⟩ := hMe178; have hv178_0 := hcc178 0 _ rfl; rw [Nat.add_zero, show ((Kd.slice 35 k35)).sz = 1 from rfl, Nat.mul_one] at hv178_0; replace hv178_0 := Option.some.inj (hv178_0.symm.trans hx178_0); rw [hv178_0] at ge178_0; have HL178_0 := Aside0.mk (show Kd.R k35 35 _ _ _ _ (rd_L2 t175 0) from ge178_0); clear hv178_0 ge178_0; clear hcc178 hce178; have qi178 : (0 < t175.length) = True := eq_true (by omega); (try rw [show ((0 : Int)).toNat = 0 from rfl] at hx178_0); (try rw [Addr.add_zero'] at hx178_0); have HR178_0 := Aside0.mk hi178_0; have HC178_0 := Aside0.mk hl178_0; clear hi178_0 hl178_0; replace p178 := eq_true p178; replace q178 := eq_true q178; have p179 : 0 ≤ (0 : Int) := (by omega); have q179 : 0 < (t175.length : Int) := of_decide_eq_true (by first | (with_reducible assumption) | assumption); obtain ⟨ad179, A179_0, c179_0, e179, hx179_0, hl179_0, hi179_0⟩ := at_L2 (Kd.S_reads' HO177.out).2.2 0 p179 q179; obtain rfl : ad178 = ad179 := (by injection e179); obtain ⟨ce179, hce179, hMe179, hcc179⟩ := Kd.S_get HO177.out [] 0 p179 (by first | exact q179 | exact of_decide_eq_true (by first | (with_reducible assumption) | assumption) | (have e_ := (Kd.S_reads' HO177.out).1; omega)); obtain ⟨ve179_0, rfl, ge179_0⟩ := hMe179; have hv179_0 := hcc179 0 _ rfl; rw [Nat.add_zero, show ((Kd.slice 35 k35)).sz = 1 from rfl, Nat.mul_one] at hv179_0; replace hv179_0 := Option.some.inj (hv179_0.symm.trans hx179_0); rw [hv179_0] at ge179_0; have HL179_0 := Aside0.mk (show Kd.R k35 35 _ _ _ _ (rd_L2 t175 0) from ge179_0); clear hv179_0 ge179_0; clear hcc179 hce179; have qi179 : (0 < t175.length) = True := eq_true (by omega); (try rw [show ((0 : Int)).toNat = 0 from rfl] at hx179_0); (try rw [Addr.add_zero'] at hx179_0); have HR179_0 := Aside0.mk hi179_0; have HC179_0 := Aside0.mk hl179_0; clear hi179_0 hl179_0; replace p179 := eq_true p179; replace q179 := eq_true q179; have ea_ := Option.some.inj (hx178_0.symm.trans hx179_0); injection ea_ with ea_ en_ ec_; subst ea_; subst ec_; clear en_; have p180 : 0 ≤ (0 : Int) := (by omega); have q180 : 0 < ((rd_L2 t175 0).length : Int) := of_decide_eq_true (by first | (with_reducible assumption) | assumption); obtain ⟨ad180, e180, hx180_0, hx180_1⟩ := at_T35 (by repeat (first | (with_reducible exact HR179_0.out) | (with_reducible refine Kd.C_alloc ?_ _) | (with_reducible refine Kd.C_drewN ?_ _) | (with_reducible refine Kd.C_drew ?_) | exact HR179_0.out)) 0 p180 q180; cases e180; have qi180 : (0 < (rd_L2 t175 0).length) = True := eq_true (by omega); (try rw [show ((0 : Int)).toNat = 0 from rfl] at hx180_0); (try rw [show 0 * 2 = 0 from rfl] at hx180_0); (try rw [Addr.add_zero'] at hx180_0); (try rw [show ((0 : Int)).toNat = 0 from rfl] at hx180_1); (try rw [show 0 * 2 = 0 from rfl] at hx180_1); (try rw [Addr.add_zero'] at hx180_1); replace p180 := eq_true p180; replace q180 := eq_true q180; have p181 : 0 ≤ (0 : Int) := (by omega); have q181 : 0 < (t175.length : Int) := of_decide_eq_true (by first | (with_reducible assumption) | assumption); obtain ⟨ad181, A181_0, c181_0, e181, hx181_0, hl181_0, hi181_0⟩ := at_L2 (Kd.S_reads' HO177.out).2.2 0 p181 q181; obtain rfl : ad178 = ad181 := (by injection e181); obtain ⟨ce181, hce181, hMe181, hcc181⟩ := Kd.S_get HO177.out [] 0 p181 (by first | exact q181 | exact of_decide_eq_true (by first | (with_reducible assumption) | assumption) | (have e_ := (Kd.S_reads' HO177.out).1; omega)); obtain ⟨ve181_0, rfl, ge181_0⟩ := hMe181; have hv181_0 := hcc181 0 _ rfl; rw [Nat.add_zero, show ((Kd.slice 35 k35)).sz = 1 from rfl, Nat.mul_one] at hv181_0; replace hv181_0 := Option.some.inj (hv181_0.symm.trans hx181_0); rw [hv181_0] at ge181_0; have HL181_0 := Aside0.mk (show Kd.R k35 35 _ _ _ _ (rd_L2 t175 0) from ge181_0); clear hv181_0 ge181_0; clear hcc181 hce181; have qi181 : (0 < t175.length) = True := eq_true (by omega); (try rw [show ((0 : Int)).toNat = 0 from rfl] at hx181_0); (try rw [Addr.add_zero'] at hx181_0); have HR181_0 := Aside0.mk hi181_0; have HC181_0 := Aside0.mk hl181_0; clear hi181_0 hl181_0; replace p181 := eq_true p181; replace q181 := eq_true q181; have ea_ := Option.some.inj (hx178_0.symm.trans hx181_0); injection ea_ with ea_ en_ ec_; subst ea_; subst ec_; clear en_; have p182 : 0 ≤ (1 : Int) := (by omega); have q182 : 1 < ((rd_L2 t175 0).length : Int) := of_decide_eq_true (by first | (with_reducible assumption) | assumption); obtain ⟨ad182, e182, hx182_0, hx182_1⟩ := at_T35 (by repeat (first | (with_reducible exact HR181_0.out) | (with_reducible refine Kd.C_alloc ?_ _) | (with_reducible refine Kd.C_drewN ?_ _) | (with_reducible refine Kd.C_drew ?_) | exact HR181_0.out)) 1 p182 q182; cases e182; (try simp only [show (1 : Int).toNat = 1 from rfl, Nat.reduceMul, Nat.reduceEqDiff, Go.Addr.add, ↓reduceIte] at hx182_0); (try simp only [show (1 : Int).toNat = 1 from rfl, Nat.reduceMul, Nat.reduceEqDiff, Go.Addr.add, ↓reduceIte] at hx182_1); have qi182 : (1 < (rd_L2 t175 0).length) = True := eq_true (by omega); (try rw [show ((1 : Int)).toNat = 1 from rfl] at hx182_0); (try rw [show 1 * 2 = 2 from rfl] at hx182_0); (try rw [show ((1 : Int)).toNat = 1 from rfl] at hx182_1); (try rw [show 1 * 2 = 2 from rfl] at hx182_1); replace p182 := eq_true p182; replace q182 := eq_true q182) | ((with_reducible refine gate_dst (N := 35) rfl ?_); (try (refine gate_guard (by rfl) ?_; dsimp only)); refine Kd.R_lit (Kd.int .u8) _ 5 ?hg (N := 35) ?hd (xs := ([195, 164] : List Int)) (inner := [.int .u8 195, .int .u8 164]) (ok := fun _ => True) (okp := fun _ => True) ?hr ?hp (fun _ hk => hk) trivial (Below.refl _ _) (Nat.le_refl _) (by simp) ?_; (case hd => rfl); (case hg => rfl); (case hr => first | (go_simp; done) | (go_simp; rfl)); (case hp => exact (Reps.one (show Kd.M (Kd.int .u8) _ _ _ 195 [.int .u8 195] from rfl) (Reps.one (show Kd.M (Kd.int .u8) _ _ _ 164 [.int .u8 164] from rfl) (Reps.none _ _)))); intro v184 w30 ho31 hb hg_ hnew_; clear hg_ hnew_; (first | rw [← Ny183.out] at ho31 | (simp only [Int.reduceToNat] at ho31; rw [← Ny183.out] at ho31)); have n0_ := Aside0.mk (Kd.R_below (by (with_reducible repeat (first | apply Kd.R_alloc | apply Kd.R_drewN | apply Kd.R_drew)); exact HO174.out) hb); have n1_ := Aside0.mk (Kd.S_below (by (with_reducible repeat (first | apply Kd.S_alloc | apply Kd.S_drewN | apply Kd.S_drew)); exact HO177.out) hb); have n2_ := Aside0.mk (Kd.R_below (by (with_reducible repeat (first | apply Kd.R_alloc | apply Kd.R_drewN | apply Kd.R_drew)); exact HL178_0.out) hb); have n3_ := Aside0.mk (Kd.R_below (by (with_reducible repeat (first | apply Kd.R_alloc | apply Kd.R_drewN | apply Kd.R_drew)); exact HL179_0.out) hb); have n4_ := Aside0.mk (Kd.R_below (by (with_reducible repeat (first | apply Kd.R_alloc | apply Kd.R_drewN | apply Kd.R_drew)); exact HL181_0.out) hb); have n5_ := Aside0.mk (Kd.R_lower ho31 (below_size (by repeat (first | (with_reducible first | exact HB.out | apply below_alloc | apply pw_below_drewN | apply below_drew1) | exact HB.out)))); have n6_ := Aside0.mk (Kd.C_below (by repeat (first | (with_reducible exact HR178_0.out) | (with_reducible refine Kd.C_alloc ?_ _) | (with_reducible refine Kd.C_drewN ?_ _) | (with_reducible refine Kd.C_drew ?_) | exact HR178_0.out)) hb); have n7_ := Aside0.mk (Kd.C_below (by repeat (first | (with_reducible exact HR179_0.out) | (with_reducible refine Kd.C_alloc ?_ _) | (with_reducible refine Kd.C_drewN ?_ _) | (with_reducible refine Kd.C_drew ?_) | exact HR179_0.out)) hb); have n8_ := Aside0.mk (Kd.C_below (by repeat (first | (with_reducible exact HR181_0.out) | (with_reducible refine Kd.C_alloc ?_ _) | (with_reducible refine Kd.C_drewN ?_ _) | (with_reducible refine Kd.C_drew ?_) | exact HR181_0.out)) hb); have n9_ := Aside0.mk (below_step (by repeat (first | (with_reducible first | exact HB.out | apply below_alloc | apply pw_below_drewN | apply below_drew1) | exact HB.out)) hb); clear HO174; clear HO177; clear HL178_0; clear HL179_0; clear HL181_0; clear HR178_0; clear HR179_0; clear HR181_0; clear HB; have HO174 := n0_; have HO177 := n1_; have HL178_0 := n2_; have HL179_0 := n3_; have HL181_0 := n4_; have HO185 := n5_; have HR178_0 := n6_; have HR179_0 := n7_; have HR181_0 := n8_; have HB := n9_; clear n0_ n1_ n2_ n3_ n4_ n5_ n6_ n7_ n8_ n9_; clear hb ho31; obtain ⟨Ao32, co32, eo32⟩ := Kd.R_slice HO185.out; subst eo32) | (go_at_call 17; (with_reducible refine (seqs_Match.calls k _ _ t175 _ _ y183 0 t186 _ ?side1 ?side2 ?side3 ?side4 A9.out).mono ?_); (case side1 => repeat (first | exact (Kd.S_reads' HO177.out).2.2 | (with_reducible refine Kd.C_alloc ?_ _) | (with_reducible refine Kd.C_drewN ?_ _) | (with_reducible refine Kd.C_drew ?_))); (case side2 => exact (Kd.S_reads' HO177.out).2.1); (case side3 => repeat (first | exact (Kd.R_reads' HO185.out).2.2 | (with_reducible refine Kd.C_alloc ?_ _) | (with_reducible refine Kd.C_drewN ?_ _) | (with_reducible refine Kd.C_drew ?_))); (case side4 => exact (Kd.R_reads' HO185.out).2.1); rintro e w33 ⟨rfl, hb⟩; have n0_ := Aside0.mk (Kd.R_below (by (with_reducible repeat (first | apply Kd.R_alloc | apply Kd.R_drewN | apply Kd.R_drew)); exact HO174.out) hb); have n1_ := Aside0.mk (Kd.S_below (by (with_reducible repeat (first | apply Kd.S_alloc | apply Kd.S_drewN | apply Kd.S_drew)); exact HO177.out) hb); have n2_ := Aside0.mk (Kd.R_below (by (with_reducible repeat (first | apply Kd.R_alloc | apply Kd.R_drewN | apply Kd.R_drew)); exact HL178_0.out) hb); have n3_ := Aside0.mk (Kd.R_below (by (with_reducible repeat (first | apply Kd.R_alloc | apply Kd.R_drewN | apply Kd.R_drew)); exact HL179_0.out) hb); have n4_ := Aside0.mk (Kd.R_below (by (with_reducible repeat (first | apply Kd.R_alloc | apply Kd.R_drewN | apply Kd.R_drew)); exact HL181_0.out) hb); have n5_ := Aside0.mk (Kd.R_below (by (with_reducible repeat (first | apply Kd.R_alloc | apply Kd.R_drewN | apply Kd.R_drew)); exact HO185.out) hb); have n6_ := Aside0.mk (Kd.C_below (by repeat (first | (with_reducible exact HR178_0.out) | (with_reducible refine Kd.C_alloc ?_ _) | (with_reducible refine Kd.C_drewN ?_ _) | (with_reducible refine Kd.C_drew ?_) | exact HR178_0.out)) hb); have n7_ := Aside0.mk (Kd.C_below (by repeat (first | (with_reducible exact HR179_0.out) | (with_reducible refine Kd.C_alloc ?_ _) | (with_reducible refine Kd.C_drewN ?_ _) | (with_reducible refine Kd.C_drew ?_) | exact HR179_0.out)) hb); have n8_ := Aside0.mk (Kd.C_below (by repeat (first | (with_reducible exact HR181_0.out) | (with_reducible refine Kd.C_alloc ?_ _) | (with_reducible refine Kd.C_drewN ?_ _) | (with_reducible refine Kd.C_drew ?_) | exact HR181_0.out)) hb); have n9_ := Aside0.mk (below_step (by repeat (first | (with_reducible first | exact HB.out | apply below_alloc | apply pw_below_drewN | apply below_drew1) | exact HB.out)) hb); clear HO174; clear HO177; clear HL178_0; clear HL179_0; clear HL181_0; clear HO185; clear HR178_0; clear HR179_0; clear HR181_0; clear HB; have HO174 := n0_; have HO177 := n1_; have HL178_0 := n2_; have HL179_0 := n3_; have HL181_0 := n4_; have HO185 := n5_; have HR178_0 := n6_; have HR179_0 := n7_; have HR181_0 := n8_; have HB := n9_; clear n0_ n1_ n2_ n3_ n4_ n5_ n6_ n7_ n8_ n9_; (try clear hb); (try clear hb2); (try clear hk); (try clear hi)))
                  go_ret
                  exact ⟨by first | rfl | (simp [errW_none, errW_some] <;> rfl) | (simp [*, errW_none, errW_some] <;> rfl), by repeat (first | (with_reducible first | exact HB.out | apply below_alloc | apply pw_below_drewN | apply below_drew1) | exact HB.out)⟩
              · rw [if_neg c8] at H
                have c8b0 : (((rd_T35 (rd_L2 t175 0) 1).f0) == 128 && (((rd_T35 (rd_L2 t175 0) 1).f1) == 191)) = false := by simpa using c8
                (try (have c8b1 : decide (((rd_T35 (rd_L2 t175 0) 1).f0) = 128 && (((rd_T35 (rd_L2 t175 0) 1).f1) == 191)) = false := by simpa using c8))
                (try (have c8b2 : (((rd_T35 (rd_L2 t175 0) 1).f0) == 128 && (((rd_T35 (rd_L2 t175 0) 1).f1) == 191)) = false := by simpa using c8))
                (try (have c8b3 : ¬ (((rd_T35 (rd_L2 t175 0) 1).f0) = 128 && (((rd_T35 (rd_L2 t175 0) 1).f1) == 191)) := by simpa using c8))
                clear c8
                obtain rfl := Option.some.inj H
                go_enter Try.func14, Try.ntmps14
                go_wp2_with (first | ((with_reducible refine gate_dst (N := 3) rfl ?_); (try (refine gate_guard (by rfl) ?_; dsimp only)); refine Kd.R_lit k35 _ 35 ?hg (N := 3) ?hd (xs := ([(⟨128, 2047⟩ : S35)] : List (S35))) (inner := [.int .i64 128, .int .i64 2047]) (ok := fun _ => True) (okp := fun _ => True) ?hr ?hp (fun _ hk => hk) trivial (Below.refl _ _) (Nat.le_refl _) (by simp) ?_; (case hd => rfl); (case hg => rfl); (case hr => first | (go_simp; done) | (go_simp; rfl)); (case hp => exact (Reps.c2 (show Kd.M k35 _ _ _ (⟨128, 2047⟩ : S35) [.int .i64 128, .int .i64 2047] from (k35_mkM _ _ _ (⟨128, 2047⟩ : S35) )) (Reps.none _ _))); intro v173 w34 ho35 hb hg_ hnew_; clear hg_ hnew_; (first | rw [← Ny172.out] at ho35 | (simp only [Int.reduceToNat] at ho35; rw [← Ny172.out] at ho35)); have n0_ := Aside0.mk (Kd.R_lower ho35 (below_size (by repeat (first | (with_reducible first | exact HB.out | apply below_alloc | apply pw_below_drewN | apply below_drew1) | exact HB.out)))); have n1_ := Aside0.mk (below_step (by repeat (first | (with_reducible first | exact HB.out | apply below_alloc | apply pw_below_drewN | apply below_drew1) | exact HB.out)) hb); clear HB; have HO174 := n0_; have HB := n1_; clear n0_ n1_; clear hb ho35; obtain ⟨Ao36, co36, eo36⟩ := Kd.R_slice HO174.out; subst eo36) | ((with_reducible refine gate_callee (f := 16) rfl ?_); refine goesL_ (some 4) rfl rfl Try.func16 (by kernel_rfl) rfl #[.slice Ao36 y172.length co36] rfl (by (try simp only [List.map_toArray, List.map_cons, List.map_nil]); first | done | rfl | (simp only [List.length_drop, List.length_take]; rfl)) ?_; (with_reducible refine (seqs_Of.calls k _ _ y172 t175 _ ?side1 ?side2 A1.out).mono ?_); (case side1 => repeat (first | exact (Kd.R_reads' HO174.out).2.2 | (with_reducible refine Kd.C_alloc ?_ _) | (with_reducible refine Kd.C_drewN ?_ _) | (with_reducible refine Kd.C_drew ?_))); (case side2 => exact (Kd.R_reads' HO174.out).2.1); rintro e w37 ⟨v176, rfl, ho0, hb⟩; refine ⟨_, rfl, ?_⟩; have n0_ := Aside0.mk (Kd.R_below (by (with_reducible repeat (first | apply Kd.R_alloc | apply Kd.R_drewN | apply Kd.R_drew)); exact HO174.out) hb); have n1_ := Aside0.mk (Kd.S_lower (Kd.S_new' ho0 (Kd.R_lt (by (with_reducible repeat (first | apply Kd.R_alloc | apply Kd.R_drewN | apply Kd.R_drew)); exact HO174.out))) (below_size (by repeat (first | (with_reducible first | exact HB.out | apply below_alloc | apply pw_below_drewN | apply below_drew1) | exact HB.out)))); have n2_ := Aside0.mk (below_step (by repeat (first | (with_reducible first | exact HB.out | apply below_alloc | apply pw_below_drewN | apply below_drew1) | exact HB.out)) hb); clear HO174; clear HB; have HO174 := n0_; have HO177 := n1_; have HB := n2_; clear n0_ n1_ n2_; (try clear hb); (try clear hb2); (try clear hk); (try clear hi); (try clear ho0); obtain ⟨Ao38, co38, eo38⟩ := Kd.S_slice HO177.out; subst eo38; have p178 : 0 ≤ (0 : Int) := (by omega); have q178 : 0 < (t175.length : Int) := of_decide_eq_true (by first | (with_reducible assumption) | assumption); obtain ⟨ad178, A178_0, c178_0, e178, hx178_0, hl178_0, hi178_0⟩ := at_L2 (Kd.S_reads' HO177.out).2.2 0 p178 q178; cases e178; obtain ⟨ce178, hce178, hMe178, hcc178⟩ := Kd.S_get HO177.out [] 0 p178 (by first | exact q178 | exact of_decide_eq_true (by first | (with_reducible assumption) | assumption) | (have e_ := (Kd.S_reads' HO177.out).1; omega)); obtain ⟨ve178_0, rfl, ge178_0⟩ := hMe178; have hv178_0 := hcc178 0 _ rfl; rw [Nat.add_zero, show ((Kd.slice 35 k35)).sz = 1 from rfl, Nat.mul_one] at hv178_0; replace hv178_0 := Option.some.inj (hv178_0.symm.trans hx178_0); rw [hv178_0] at ge178_0; have HL178_0 := Aside0.mk (show Kd.R k35 35 _ _ _ _ (rd_L2 t175 0) from ge178_0); clear hv178_0 ge178_0; clear hcc178 hce178; have qi178 : (0 < t175.length) = True := eq_true (by omega); (try rw [show ((0 : Int)).toNat = 0 from rfl] at hx178_0); (try rw [Addr.add_zero'] at hx178_0); have HR178_0 := Aside0.mk hi178_0; have HC178_0 := Aside0.mk hl178_0; clear hi178_0 hl178_0; replace p178 := eq_true p178; replace q178 := eq_true q178; have p179 : 0 ≤ (0 : Int) := (by omega); have q179 : 0 < (t175.length : Int) := of_decide_eq_true (by first | (with_reducible assumption) | assumption); obtain ⟨ad179, A179_0, c179_0, e179, hx179_0, hl179_0, hi179_0⟩ := at_L2 (Kd.S_reads' HO177.out).2.2 0 p179 q179; obtain rfl : ad178 = ad179 := (by injection e179); obtain ⟨ce179, hce179, hMe179, hcc179⟩ := Kd.S_get HO177.out [] 0 p179 (by first | exact q179 | exact of_decide_eq_true (by first | (with_reducible assumption) | assumption) | (have e_ := (Kd.S_reads' HO177.out).1; omega)); obtain ⟨ve179_0, rfl, ge179_0⟩ := hMe179; have hv179_0 := hcc179 0 _ rfl; rw [Nat.add_zero, show ((Kd.slice 35 k35)).sz = 1 from rfl, Nat.mul_one] at hv179_0; replace hv179_0 := Option.some.inj (hv179_0.symm.trans hx179_0); rw [hv179_0] at ge179_0; have HL179_0 := Aside0.mk (show Kd.R k35 35 _ _ _ _ (rd_L2 t175 0) from ge179_0); clear hv179_0 ge179_0; clear hcc179 hce179; have qi179 : (0 < t175.length) = True := eq_true (by omega); (try rw [show ((0 : Int)).toNat = 0 from rfl] at hx179_0); (try rw [Addr.add_zero'] at hx179_0); have HR179_0 := Aside0.mk hi179_0; have HC179_0 := Aside0.mk hl179_0; clear hi179_0 hl179_0; replace p179 := eq_true p179; replace q179 := eq_true q179; have ea_ := Option.some.inj (hx178_0.symm.trans hx179_0); injection ea_ with ea_ en_ ec_; subst ea_; subst ec_; clear en_; have p180 : 0 ≤ (0 : Int) := (by omega); have q180 : 0 < ((rd_L2 t175 0).length : Int) := of_decide_eq_true (by first | (with_reducible assumption) | assumption); obtain ⟨ad180, e180, hx180_0, hx180_1⟩ := at_T35 (by repeat (first | (with_reducible exact HR179_0.out) | (with_reducible refine Kd.C_alloc ?_ _) | (with_reducible refine Kd.C_drewN ?_ _) | (with_reducible refine Kd.C_drew ?_) | exact HR179_0.out)) 0 p180 q180; cases e180; have qi180 : (0 < (rd_L2 t175 0).length) = True := eq_true (by omega); (try rw [show ((0 : Int)).toNat = 0 from rfl] at hx180_0); (try rw [show 0 * 2 = 0 from rfl] at hx180_0); (try rw [Addr.add_zero'] at hx180_0); (try rw [show ((0 : Int)).toNat = 0 from rfl] at hx180_1); (try rw [show 0 * 2 = 0 from rfl] at hx180_1); (try rw [Addr.add_zero'] at hx180_1); replace p180 := eq_true p180; replace q180 := eq_true q180; have p181 : 0 ≤ (0 : Int) := (by omega); have q181 : 0 < (t175.length : Int) := of_decide_eq_true (by first | (with_reducible assumption) | assumption); obtain ⟨ad181, A181_0, c181_0, e181, hx181_0, hl181_0, hi181_0⟩ := at_L2 (Kd.S_reads' HO177.out).2.2 0 p181 q181; obtain rfl : ad178 = ad181 := (by injection e181); obtain ⟨ce181, hce181, hMe181, hcc181⟩ := Kd.S_get HO177.out [] 0 p181 (by first | exact q181 | exact of_decide_eq_true (by first | (with_reducible assumption) | assumption) | (have e_ := (Kd.S_reads' HO177.out).1; omega)); obtain ⟨ve181_0, rfl, ge181_0⟩ := hMe181; have hv181_0 := hcc181 0 _ rfl; rw [Nat.add_zero, show ((Kd.slice 35 k35)).sz = 1 from rfl, Nat.mul_one] at hv181_0; replace hv181_0 := Option.some.inj (hv181_0.symm.trans hx181_0); rw [hv181_0] at ge181_0; have HL181_0 := Aside0.mk (show Kd.R k35 35 _ _ _ _ (rd_L2 t175 0) from ge181_0); clear hv181_0 ge181_0; clear hcc181 hce181; have qi181 : (0 < t175.length) = True := eq_true (by omega); (try rw [show ((0 : Int)).toNat = 0 from rfl] at hx181_0); (try rw [Addr.add_zero'] at hx181_0); have HR181_0 := Aside0.mk hi181_0; have HC181_0 := Aside0.mk hl181_0; clear hi181_0 hl181_0; replace p181 := eq_true p181; replace q181 := eq_true q181; have ea_ := Option.some.inj (hx178_0.symm.trans hx181_0); injection ea_ with ea_ en_ ec_; subst ea_; subst ec_; clear en_; have p182 : 0 ≤ (1 : Int) := (by omega); have q182 : 1 < ((rd_L2 t175 0).length : Int) := of_decide_eq_true (by first | (with_reducible assumption) | assumption); obtain ⟨ad182, e182, hx182_0, hx182_1⟩ := at_T35 (by repeat (first | (with_reducible exact HR181_0.out) | (with_reducible refine Kd.C_alloc ?_ _) | (with_reducible refine Kd.C_drewN ?_ _) | (with_reducible refine Kd.C_drew ?_) | exact HR181_0.out)) 1 p182 q182; cases e182; (try simp only [show (1 : Int).toNat = 1 from rfl, Nat.reduceMul, Nat.reduceEqDiff, Go.Addr.add, ↓reduceIte] at hx182_0); (try simp only [show (1 : Int).toNat = 1 from rfl, Nat.reduceMul, Nat.reduceEqDiff, Go.Addr.add, ↓reduceIte] at hx182_1); have qi182 : (1 < (rd_L2 t175 0).length) = True := eq_true (by omega); (try rw [show ((1 : Int)).toNat = 1 from rfl] at hx182_0); (try rw [show 1 * 2 = 2 from rfl] at hx182_0); (try rw [show ((1 : Int)).toNat = 1 from rfl] at hx182_1); (try rw [show 1 * 2 = 2 from rfl] at hx182_1); replace p182 := eq_true p182; replace q182 := eq_true q182))
                go_ret
                exact ⟨by first | rfl | (simp [errW_none, errW_some] <;> rfl) | (simp [*, errW_none, errW_some] <;> rfl), by repeat (first | (with_reducible first | exact HB.out | apply below_alloc | apply pw_below_drewN | apply below_drew1) | exact HB.out)⟩
            · rw [if_neg c7] at H
              exact absurd H (by simp)
          · rw [if_neg c6] at H
            have c6b0 : (((rd_T35 (rd_L2 t175 0) 0).f0) == 194 && (((rd_T35 (rd_L2 t175 0) 0).f1) == 223)) = false := by simpa using c6
            (try (have c6b1 : decide (((rd_T35 (rd_L2 t175 0) 0).f0) = 194 && (((rd_T35 (rd_L2 t175 0) 0).f1) == 223)) = false := by simpa using c6))
            (try (have c6b2 : (((rd_T35 (rd_L2 t175 0) 0).f0) == 194 && (((rd_T35 (rd_L2 t175 0) 0).f1) == 223)) = false := by simpa using c6))
            (try (have c6b3 : ¬ (((rd_T35 (rd_L2 t175 0) 0).f0) = 194 && (((rd_T35 (rd_L2 t175 0) 0).f1) == 223)) := by simpa using c6))
            clear c6
            obtain rfl := Option.some.inj H
            go_enter Try.func14, Try.ntmps14
            go_wp2_with (first | ((with_reducible refine gate_dst (N := 3) rfl ?_); (try (refine gate_guard (by rfl) ?_; dsimp only)); refine Kd.R_lit k35 _ 35 ?hg (N := 3) ?hd (xs := ([(⟨128, 2047⟩ : S35)] : List (S35))) (inner := [.int .i64 128, .int .i64 2047]) (ok := fun _ => True) (okp := fun _ => True) ?hr ?hp (fun _ hk => hk) trivial (Below.refl _ _) (Nat.le_refl _) (by simp) ?_; (case hd => rfl); (case hg => rfl); (case hr => first | (go_simp; done) | (go_simp; rfl)); (case hp => exact (Reps.c2 (show Kd.M k35 _ _ _ (⟨128, 2047⟩ : S35) [.int .i64 128, .int .i64 2047] from (k35_mkM _ _ _ (⟨128, 2047⟩ : S35) )) (Reps.none _ _))); intro v173 w39 ho40 hb hg_ hnew_; clear hg_ hnew_; (first | rw [← Ny172.out] at ho40 | (simp only [Int.reduceToNat] at ho40; rw [← Ny172.out] at ho40)); have n0_ := Aside0.mk (Kd.R_lower ho40 (below_size (by repeat (first | (with_reducible first | exact HB.out | apply below_alloc | apply pw_below_drewN | apply below_drew1) | exact HB.out)))); have n1_ := Aside0.mk (below_step (by repeat (first | (with_reducible first | exact HB.out | apply below_alloc | apply pw_below_drewN | apply below_drew1) | exact HB.out)) hb); clear HB; have HO174 := n0_; have HB := n1_; clear n0_ n1_; clear hb ho40; obtain ⟨Ao41, co41, eo41⟩ := Kd.R_slice HO174.out; subst eo41) | ((with_reducible refine gate_callee (f := 16) rfl ?_); refine goesL_ (some 4) rfl rfl Try.func16 (by kernel_rfl) rfl #[.slice Ao41 y172.length co41] rfl (by (try simp only [List.map_toArray, List.map_cons, List.map_nil]); first | done | rfl | (simp only [List.length_drop, List.length_take]; rfl)) ?_; (with_reducible refine (seqs_Of.calls k _ _ y172 t175 _ ?side1 ?side2 A1.out).mono ?_); (case side1 => repeat (first | exact (Kd.R_reads' HO174.out).2.2 | (with_reducible refine Kd.C_alloc ?_ _) | (with_reducible refine Kd.C_drewN ?_ _) | (with_reducible refine Kd.C_drew ?_))); (case side2 => exact (Kd.R_reads' HO174.out).2.1); rintro e w42 ⟨v176, rfl, ho0, hb⟩; refine ⟨_, rfl, ?_⟩; have n0_ := Aside0.mk (Kd.R_below (by (with_reducible repeat (first | apply Kd.R_alloc | apply Kd.R_drewN | apply Kd.R_drew)); exact HO174.out) hb); have n1_ := Aside0.mk (Kd.S_lower (Kd.S_new' ho0 (Kd.R_lt (by (with_reducible repeat (first | apply Kd.R_alloc | apply Kd.R_drewN | apply Kd.R_drew)); exact HO174.out))) (below_size (by repeat (first | (with_reducible first | exact HB.out | apply below_alloc | apply pw_below_drewN | apply below_drew1) | exact HB.out)))); have n2_ := Aside0.mk (below_step (by repeat (first | (with_reducible first | exact HB.out | apply below_alloc | apply pw_below_drewN | apply below_drew1) | exact HB.out)) hb); clear HO174; clear HB; have HO174 := n0_; have HO177 := n1_; have HB := n2_; clear n0_ n1_ n2_; (try clear hb); (try clear hb2); (try clear hk); (try clear hi); (try clear ho0); obtain ⟨Ao43, co43, eo43⟩ := Kd.S_slice HO177.out; subst eo43; have p178 : 0 ≤ (0 : Int) := (by omega); have q178 : 0 < (t175.length : Int) := of_decide_eq_true (by first | (with_reducible assumption) | assumption); obtain ⟨ad178, A178_0, c178_0, e178, hx178_0, hl178_0, hi178_0⟩ := at_L2 (Kd.S_reads' HO177.out).2.2 0 p178 q178; cases e178; obtain ⟨ce178, hce178, hMe178, hcc178⟩ := Kd.S_get HO177.out [] 0 p178 (by first | exact q178 | exact of_decide_eq_true (by first | (with_reducible assumption) | assumption) | (have e_ := (Kd.S_reads' HO177.out).1; omega)); obtain ⟨ve178_0, rfl, ge178_0⟩ := hMe178; have hv178_0 := hcc178 0 _ rfl; rw [Nat.add_zero, show ((Kd.slice 35 k35)).sz = 1 from rfl, Nat.mul_one] at hv178_0; replace hv178_0 := Option.some.inj (hv178_0.symm.trans hx178_0); rw [hv178_0] at ge178_0; have HL178_0 := Aside0.mk (show Kd.R k35 35 _ _ _ _ (rd_L2 t175 0) from ge178_0); clear hv178_0 ge178_0; clear hcc178 hce178; have qi178 : (0 < t175.length) = True := eq_true (by omega); (try rw [show ((0 : Int)).toNat = 0 from rfl] at hx178_0); (try rw [Addr.add_zero'] at hx178_0); have HR178_0 := Aside0.mk hi178_0; have HC178_0 := Aside0.mk hl178_0; clear hi178_0 hl178_0; replace p178 := eq_true p178; replace q178 := eq_true q178; have p179 : 0 ≤ (0 : Int) := (by omega); have q179 : 0 < (t175.length : Int) := of_decide_eq_true (by first | (with_reducible assumption) | assumption); obtain ⟨ad179, A179_0, c179_0, e179, hx179_0, hl179_0, hi179_0⟩ := at_L2 (Kd.S_reads' HO177.out).2.2 0 p179 q179; obtain rfl : ad178 = ad179 := (by injection e179); obtain ⟨ce179, hce179, hMe179, hcc179⟩ := Kd.S_get HO177.out [] 0 p179 (by first | exact q179 | exact of_decide_eq_true (by first | (with_reducible assumption) | assumption) | (have e_ := (Kd.S_reads' HO177.out).1; omega)); obtain ⟨ve179_0, rfl, ge179_0⟩ := hMe179; have hv179_0 := hcc179 0 _ rfl; rw [Nat.add_zero, show ((Kd.slice 35 k35)).sz = 1 from rfl, Nat.mul_one] at hv179_0; replace hv179_0 := Option.some.inj (hv179_0.symm.trans hx179_0); rw [hv179_0] at ge179_0; have HL179_0 := Aside0.mk (show Kd.R k35 35 _ _ _ _ (rd_L2 t175 0) from ge179_0); clear hv179_0 ge179_0; clear hcc179 hce179; have qi179 : (0 < t175.length) = True := eq_true (by omega); (try rw [show ((0 : Int)).toNat = 0 from rfl] at hx179_0); (try rw [Addr.add_zero'] at hx179_0); have HR179_0 := Aside0.mk hi179_0; have HC179_0 := Aside0.mk hl179_0; clear hi179_0 hl179_0; replace p179 := eq_true p179; replace q179 := eq_true q179; have ea_ := Option.some.inj (hx178_0.symm.trans hx179_0); injection ea_ with ea_ en_ ec_; subst ea_; subst ec_; clear en_; have p180 : 0 ≤ (0 : Int) := (by omega); have q180 : 0 < ((rd_L2 t175 0).length : Int) := of_decide_eq_true (by first | (with_reducible assumption) | assumption); obtain ⟨ad180, e180, hx180_0, hx180_1⟩ := at_T35 (by repeat (first | (with_reducible exact HR179_0.out) | (with_reducible refine Kd.C_alloc ?_ _) | (with_reducible refine Kd.C_drewN ?_ _) | (with_reducible refine Kd.C_drew ?_) | exact HR179_0.out)) 0 p180 q180; cases e180; have qi180 : (0 < (rd_L2 t175 0).length) = True := eq_true (by omega); (try rw [show ((0 : Int)).toNat = 0 from rfl] at hx180_0); (try rw [show 0 * 2 = 0 from rfl] at hx180_0); (try rw [Addr.add_zero'] at hx180_0); (try rw [show ((0 : Int)).toNat = 0 from rfl] at hx180_1); (try rw [show 0 * 2 = 0 from rfl] at hx180_1); (try rw [Addr.add_zero'] at hx180_1); replace p180 := eq_true p180; replace q180 := eq_true q180))
            go_ret
            exact ⟨by first | rfl | (simp [errW_none, errW_some] <;> rfl) | (simp [*, errW_none, errW_some] <;> rfl), by repeat (first | (with_reducible first | exact HB.out | apply below_alloc | apply pw_below_drewN | apply below_drew1) | exact HB.out)⟩
        · rw [if_neg c5] at H
          exact absurd H (by simp)
      · rw [if_neg c4] at H
        have c4b0 : (((rd_L2 t175 0).length : Int) == 2) = false := beq_eq_false_iff_ne.mpr c4
        have c4b1 : (((rd_L2 t175 0).length : Int) != 2) = true := bne_iff_ne.mpr c4
        obtain rfl := Option.some.inj H
        go_enter Try.func14, Try.ntmps14
        go_wp2_with (first | ((with_reducible refine gate_dst (N := 3) rfl ?_); (try (refine gate_guard (by rfl) ?_; dsimp only)); refine Kd.R_lit k35 _ 35 ?hg (N := 3) ?hd (xs := ([(⟨128, 2047⟩ : S35)] : List (S35))) (inner := [.int .i64 128, .int .i64 2047]) (ok := fun _ => True) (okp := fun _ => True) ?hr ?hp (fun _ hk => hk) trivial (Below.refl _ _) (Nat.le_refl _) (by simp) ?_; (case hd => rfl); (case hg => rfl); (case hr => first | (go_simp; done) | (go_simp; rfl)); (case hp => exact (Reps.c2 (show Kd.M k35 _ _ _ (⟨128, 2047⟩ : S35) [.int .i64 128, .int .i64 2047] from (k35_mkM _ _ _ (⟨128, 2047⟩ : S35) )) (Reps.none _ _))); intro v173 w44 ho45 hb hg_ hnew_; clear hg_ hnew_; (first | rw [← Ny172.out] at ho45 | (simp only [Int.reduceToNat] at ho45; rw [← Ny172.out] at ho45)); have n0_ := Aside0.mk (Kd.R_lower ho45 (below_size (by repeat (first | (with_reducible first | exact HB.out | apply below_alloc | apply pw_below_drewN | apply below_drew1) | exact HB.out)))); have n1_ := Aside0.mk (below_step (by repeat (first | (with_reducible first | exact HB.out | apply below_alloc | apply pw_below_drewN | apply below_drew1) | exact HB.out)) hb); clear HB; have HO174 := n0_; have HB := n1_; clear n0_ n1_; clear hb ho45; obtain ⟨Ao46, co46, eo46⟩ := Kd.R_slice HO174.out; subst eo46) | ((with_reducible refine gate_callee (f := 16) rfl ?_); refine goesL_ (some 4) rfl rfl Try.func16 (by kernel_rfl) rfl #[.slice Ao46 y172.length co46] rfl (by (try simp only [List.map_toArray, List.map_cons, List.map_nil]); first | done | rfl | (simp only [List.length_drop, List.length_take]; rfl)) ?_; (with_reducible refine (seqs_Of.calls k _ _ y172 t175 _ ?side1 ?side2 A1.out).mono ?_); (case side1 => repeat (first | exact (Kd.R_reads' HO174.out).2.2 | (with_reducible refine Kd.C_alloc ?_ _) | (with_reducible refine Kd.C_drewN ?_ _) | (with_reducible refine Kd.C_drew ?_))); (case side2 => exact (Kd.R_reads' HO174.out).2.1); rintro e w47 ⟨v176, rfl, ho0, hb⟩; refine ⟨_, rfl, ?_⟩; have n0_ := Aside0.mk (Kd.R_below (by (with_reducible repeat (first | apply Kd.R_alloc | apply Kd.R_drewN | apply Kd.R_drew)); exact HO174.out) hb); have n1_ := Aside0.mk (Kd.S_lower (Kd.S_new' ho0 (Kd.R_lt (by (with_reducible repeat (first | apply Kd.R_alloc | apply Kd.R_drewN | apply Kd.R_drew)); exact HO174.out))) (below_size (by repeat (first | (with_reducible first | exact HB.out | apply below_alloc | apply pw_below_drewN | apply below_drew1) | exact HB.out)))); have n2_ := Aside0.mk (below_step (by repeat (first | (with_reducible first | exact HB.out | apply below_alloc | apply pw_below_drewN | apply below_drew1) | exact HB.out)) hb); clear HO174; clear HB; have HO174 := n0_; have HO177 := n1_; have HB := n2_; clear n0_ n1_ n2_; (try clear hb); (try clear hb2); (try clear hk); (try clear hi); (try clear ho0); obtain ⟨Ao48, co48, eo48⟩ := Kd.S_slice HO177.out; subst eo48; have p178 : 0 ≤ (0 : Int) := (by omega); have q178 : 0 < (t175.length : Int) := of_decide_eq_true (by first | (with_reducible assumption) | assumption); obtain ⟨ad178, A178_0, c178_0, e178, hx178_0, hl178_0, hi178_0⟩ := at_L2 (Kd.S_reads' HO177.out).2.2 0 p178 q178; cases e178; obtain ⟨ce178, hce178, hMe178, hcc178⟩ := Kd.S_get HO177.out [] 0 p178 (by first | exact q178 | exact of_decide_eq_true (by first | (with_reducible assumption) | assumption) | (have e_ := (Kd.S_reads' HO177.out).1; omega)); obtain ⟨ve178_0, rfl, ge178_0⟩ := hMe178; have hv178_0 := hcc178 0 _ rfl; rw [Nat.add_zero, show ((Kd.slice 35 k35)).sz = 1 from rfl, Nat.mul_one] at hv178_0; replace hv178_0 := Option.some.inj (hv178_0.symm.trans hx178_0); rw [hv178_0] at ge178_0; have HL178_0 := Aside0.mk (show Kd.R k35 35 _ _ _ _ (rd_L2 t175 0) from ge178_0); clear hv178_0 ge178_0; clear hcc178 hce178; have qi178 : (0 < t175.length) = True := eq_true (by omega); (try rw [show ((0 : Int)).toNat = 0 from rfl] at hx178_0); (try rw [Addr.add_zero'] at hx178_0); have HR178_0 := Aside0.mk hi178_0; have HC178_0 := Aside0.mk hl178_0; clear hi178_0 hl178_0; replace p178 := eq_true p178; replace q178 := eq_true q178))
        go_ret
        exact ⟨by first | rfl | (simp [errW_none, errW_some] <;> rfl) | (simp [*, errW_none, errW_some] <;> rfl), by repeat (first | (with_reducible first | exact HB.out | apply below_alloc | apply pw_below_drewN | apply below_drew1) | exact HB.out)⟩
    · rw [if_neg c3] at H
      exact absurd H (by simp)
  · rw [if_neg c2] at H
    have c2b0 : ((t175.length : Int) == 1) = false := beq_eq_false_iff_ne.mpr c2
    have c2b1 : ((t175.length : Int) != 1) = true := bne_iff_ne.mpr c2
    obtain rfl := Option.some.inj H
    go_enter Try.func14, Try.ntmps14
    go_wp2_with (first | ((with_reducible refine gate_dst (N := 3) rfl ?_); (try (refine gate_guard (by rfl) ?_; dsimp only)); refine Kd.R_lit k35 _ 35 ?hg (N := 3) ?hd (xs := ([(⟨128, 2047⟩ : S35)] : List (S35))) (inner := [.int .i64 128, .int .i64 2047]) (ok := fun _ => True) (okp := fun _ => True) ?hr ?hp (fun _ hk => hk) trivial (Below.refl _ _) (Nat.le_refl _) (by simp) ?_; (case hd => rfl); (case hg => rfl); (case hr => first | (go_simp; done) | (go_simp; rfl)); (case hp => exact (Reps.c2 (show Kd.M k35 _ _ _ (⟨128, 2047⟩ : S35) [.int .i64 128, .int .i64 2047] from (k35_mkM _ _ _ (⟨128, 2047⟩ : S35) )) (Reps.none _ _))); intro v173 w49 ho50 hb hg_ hnew_; clear hg_ hnew_; (first | rw [← Ny172.out] at ho50 | (simp only [Int.reduceToNat] at ho50; rw [← Ny172.out] at ho50)); have n0_ := Aside0.mk (Kd.R_lower ho50 (below_size (by repeat (first | (with_reducible first | exact HB.out | apply below_alloc | apply pw_below_drewN | apply below_drew1) | exact HB.out)))); have n1_ := Aside0.mk (below_step (by repeat (first | (with_reducible first | exact HB.out | apply below_alloc | apply pw_below_drewN | apply below_drew1) | exact HB.out)) hb); clear HB; have HO174 := n0_; have HB := n1_; clear n0_ n1_; clear hb ho50; obtain ⟨Ao51, co51, eo51⟩ := Kd.R_slice HO174.out; subst eo51) | ((with_reducible refine gate_callee (f := 16) rfl ?_); refine goesL_ (some 4) rfl rfl Try.func16 (by kernel_rfl) rfl #[.slice Ao51 y172.length co51] rfl (by (try simp only [List.map_toArray, List.map_cons, List.map_nil]); first | done | rfl | (simp only [List.length_drop, List.length_take]; rfl)) ?_; (with_reducible refine (seqs_Of.calls k _ _ y172 t175 _ ?side1 ?side2 A1.out).mono ?_); (case side1 => repeat (first | exact (Kd.R_reads' HO174.out).2.2 | (with_reducible refine Kd.C_alloc ?_ _) | (with_reducible refine Kd.C_drewN ?_ _) | (with_reducible refine Kd.C_drew ?_))); (case side2 => exact (Kd.R_reads' HO174.out).2.1); rintro e w52 ⟨v176, rfl, ho0, hb⟩; refine ⟨_, rfl, ?_⟩; have n0_ := Aside0.mk (Kd.R_below (by (with_reducible repeat (first | apply Kd.R_alloc | apply Kd.R_drewN | apply Kd.R_drew)); exact HO174.out) hb); have n1_ := Aside0.mk (Kd.S_lower (Kd.S_new' ho0 (Kd.R_lt (by (with_reducible repeat (first | apply Kd.R_alloc | apply Kd.R_drewN | apply Kd.R_drew)); exact HO174.out))) (below_size (by repeat (first | (with_reducible first | exact HB.out | apply below_alloc | apply pw_below_drewN | apply below_drew1) | exact HB.out)))); have n2_ := Aside0.mk (below_step (by repeat (first | (with_reducible first | exact HB.out | apply below_alloc | apply pw_below_drewN | apply below_drew1) | exact HB.out)) hb); clear HO174; clear HB; have HO174 := n0_; have HO177 := n1_; have HB := n2_; clear n0_ n1_ n2_; (try clear hb); (try clear hb2); (try clear hk); (try clear hi); (try clear ho0); obtain ⟨Ao53, co53, eo53⟩ := Kd.S_slice HO177.out; subst eo53))
    go_ret
    exact ⟨by first | rfl | (simp [errW_none, errW_some] <;> rfl) | (simp [*, errW_none, errW_some] <;> rfl), by repeat (first | (with_reducible first | exact HB.out | apply below_alloc | apply pw_below_drewN | apply below_drew1) | exact HB.out)⟩

/-! ### ranges_Size: function 21 -/
def ranges_Size.l0 : Nat → Int → List (S35) → Int → Int → Option (Int)
  | 0, _, _, _, _ => none
  | k + 1, x3, x7, x8, x9 => if x9 < x8 then (if 0 ≤ x9 then (if x9 < (x7.length : Int) then (ranges_Size.l0 k (wrap64 (x3 + (wrap64 ((wrap64 (((rd_T35 x7 x9).f1) - ((rd_T35 x7 x9).f0))) + 1)))) x7 x8 (wrap64 (x9 + 1))) else (none)) else (none)) else (some x3)
def ranges_Size.f (k : Nat) (l0 : List (S35)) : Option (Int) := (ranges_Norm.f l0).bind fun t191 => (ranges_Size.l0 k 0 t191 (t191.length : Int) 0)
theorem ranges_Size.mono_l : ∀ k, (∀ y0 y1 y2 y3, LeO (ranges_Size.l0 k y0 y1 y2 y3) (ranges_Size.l0 (k + 1) y0 y1 y2 y3))
  | 0 => fun _ _ _ _ r h => by simp [ranges_Size.l0] at h
  | k + 1 => by
    have ih0 := ranges_Size.mono_l k
    · intro y0 y1 y2 y3
      unfold ranges_Size.l0
      repeat' first
      | (with_reducible exact ih0 _ _ _ _)
      | (with_reducible exact LeO.refl _)
      | (with_reducible exact LeO.none _)
      | (with_reducible refine LeO.ite ?_ ?_)
      | (with_reducible refine LeO.bind ?_ (fun _ => ?_))
      | exact ih0 _ _ _ _
      | exact LeO.none _
      | refine LeO.ite ?_ ?_
      | refine LeO.bind ?_ (fun _ => ?_)
theorem ranges_Size.mono : ∀ a0 k, LeO (ranges_Size.f k a0) (ranges_Size.f (k + 1) a0) := by
  intro a0 k
  have ih0 := ranges_Size.mono_l k
  unfold ranges_Size.f
  repeat' first
      | (with_reducible exact ih0 _ _ _ _)
      | (with_reducible exact LeO.refl _)
      | (with_reducible exact LeO.none _)
      | (with_reducible refine LeO.ite ?_ ?_)
      | (with_reducible refine LeO.bind ?_ (fun _ => ?_))
      | exact ih0 _ _ _ _
      | exact LeO.none _
      | refine LeO.ite ?_ ?_
      | refine LeO.bind ?_ (fun _ => ?_)
set_option maxHeartbeats 8000000 in
set_option maxRecDepth 100000 in
theorem ranges_Size.calls (k : Nat) (A0 : Option Addr) (c0 : Nat) (l0 : List (S35)) (r : Int) (w : World) (hr0 : Kd.C k35 w A0 l0.length l0) (hc0 : l0.length ≤ c0) (h : ranges_Size.f k l0 = some r) :
    Calls Try.prog 21 #[.slice A0 l0.length c0] w fun e w' => e = .returned (.int .i64 r) ∧ Below w.heap.size w w' := by
  have hu35 := Try.underlying35
  have HR0 := Aside0.mk hr0
  have HC0 := Aside0.mk hc0
  clear hr0 hc0
  have HB := Aside0.mk (Below.refl w.heap.size w)
  have H : ((ranges_Norm.f l0).bind fun t191 => (ranges_Size.l0 k 0 t191 (t191.length : Int) 0)) = some r := h
  clear h
  replace H := Option.bind_eq_some_iff.mp H
  obtain ⟨t191, A20, H⟩ := H
  replace H : (ranges_Size.l0 k 0 t191 (t191.length : Int) 0) = some r := H
  have A2 := Aside0.mk A20
  clear A20
  have H' := Aside0.mk H
  clear H
  go_enter Try.func21, Try.ntmps21
  go_wp2_with (first | ((with_reducible refine gate_callee (f := 36) rfl ?_); refine goesL_ (some 7) rfl rfl Try.func36 (by kernel_rfl) rfl #[.slice A0 l0.length c0] rfl (by (try simp only [List.map_toArray, List.map_cons, List.map_nil]); first | done | rfl | (simp only [List.length_drop, List.length_take]; rfl)) ?_; (with_reducible refine (ranges_Norm.calls _ _ l0 t191 _ ?side1 ?side2 A2.out).mono ?_); (case side1 => repeat (first | exact HR0.out | (with_reducible refine Kd.C_alloc ?_ _) | (with_reducible refine Kd.C_drewN ?_ _) | (with_reducible refine Kd.C_drew ?_))); (case side2 => exact HC0.out); rintro e w3 ⟨v192, rfl, ho0, hb⟩; refine ⟨_, rfl, ?_⟩; have n0_ := Aside0.mk (Kd.R_lower ho0 (below_size (by repeat (first | (with_reducible first | exact HB.out | apply below_alloc | apply pw_below_drewN | apply below_drew1) | exact HB.out)))); have n1_ := Aside0.mk (below_step (by repeat (first | (with_reducible first | exact HB.out | apply below_alloc | apply pw_below_drewN | apply below_drew1) | exact HB.out)) hb); clear HB; have HO193 := n0_; have HB := n1_; clear n0_ n1_; (try clear hb); (try clear hb2); (try clear hk); (try clear hi); (try clear ho0); obtain ⟨Ao4, co4, eo4⟩ := Kd.R_slice HO193.out; subst eo4))
  go_loopg [3, 9] k (fun kq v3 v9 w' => ∃ (x3_1 : Int) (x9_1 : Int), v3 = .int .i64 x3_1 ∧ v9 = .int .i64 x9_1 ∧ Aside0 (ranges_Size.l0 kq x3_1 t191 (t191.length : Int) x9_1 = some r) ∧ Aside0 (kq ≤ k) ∧ Aside0 (Kd.R k35 35 w' w.heap.size (fun _ => True) (.slice Ao4 t191.length co4) t191) ∧ Aside0 (Below w.heap.size w w'))
  case atStart => exact ⟨(0), (0), (by first | rfl | (simp; done) | (simp [*]; done) | (simp [*, bne]; done)), (by first | rfl | (simp; done) | (simp [*]; done) | (simp [*, bne]; done)), H', ⟨Nat.le_refl _⟩, ⟨by (with_reducible repeat (first | apply Kd.R_alloc | apply Kd.R_drewN | apply Kd.R_drew)); exact HO193.out⟩, ⟨by repeat (first | (with_reducible first | exact HB.out | apply below_alloc | apply pw_below_drewN | apply below_drew1) | exact HB.out)⟩⟩
  case round =>
    clear H'
    try clear c2
    try clear p2
    try clear c3
    obtain ⟨x3_1, x9_1, rfl, rfl, HA, HK1, HO_7, HB⟩ := hrel
    cases gk with
    | zero => exact absurd HA.out (by simp [ranges_Size.l0])
    | succ k1 =>
      have H := HA.out
      clear HA
      simp only [ranges_Size.l0] at H
      by_cases c5 : x9_1 < (t191.length : Int)
      · rw [if_pos c5] at H
        have c5b0 : decide (x9_1 < (t191.length : Int)) = true := decide_eq_true c5
        clear c5
        by_cases c6 : 0 ≤ x9_1
        · rw [if_pos c6] at H
          have c6b0 : decide (0 ≤ x9_1) = true := decide_eq_true c6
          clear c6
          by_cases c7 : x9_1 < (t191.length : Int)
          · rw [if_pos c7] at H
            have c7b0 : decide (x9_1 < (t191.length : Int)) = true := decide_eq_true c7
            clear c7
            have H' := Aside0.mk H
            clear H
            have p194 : 0 ≤ (x9_1 : Int) := of_decide_eq_true (by first | (with_reducible assumption) | assumption)
            have q194 : x9_1 < (t191.length : Int) := of_decide_eq_true (by first | (with_reducible assumption) | assumption)
            obtain ⟨ad194, e194, hx194_0, hx194_1⟩ := at_T35 (Kd.R_reads' HO_7.out).2.2 x9_1 p194 q194
            cases e194
            replace p194 := eq_true p194
            replace q194 := eq_true q194
            go_wp2_with (first | ((with_reducible refine gate_dst (N := 5) rfl ?_); refine box_event ?hg (N := 5) ?hd (cs := #[.int .i64 0, .int .i64 0]) (t := 35) ?hr ?_; (case hd => rfl); (case hg => rfl); (case hr => first | (go_simp; done) | (go_simp; rfl)); intro gb195 hg w8 hbox hb; have n0_ := Aside0.mk (Kd.R_below (Kd.R_elderB (by (with_reducible repeat (first | apply Kd.R_alloc | apply Kd.R_drewN | apply Kd.R_drew)); exact HO_7.out) gb195 (Nat.le_of_eq hg.symm)) hb); have n1_ := Aside0.mk (below_step (by repeat (first | (with_reducible first | exact HB.out | apply below_alloc | apply pw_below_drewN | apply below_drew1) | exact HB.out)) hb); have n2_ := Aside0.mk (hbox); have n3_ := Aside0.mk ((by rw [hg]; exact (below_size (by repeat (first | (with_reducible first | exact HB.out | apply below_alloc | apply pw_below_drewN | apply below_drew1) | exact HB.out))) : w.heap.size ≤ gb195)); have n4_ := Aside0.mk ((by rw [hg]; exact (below_size (by repeat (first | (with_reducible first | exact HB.out | apply below_alloc | apply pw_below_drewN | apply below_drew1) | exact HB.out))) : w.heap.size ≤ gb195)); clear HO_7; clear HB; have HO_7 := n0_; have HB := n1_; have BK195 := n2_; have GW195 := n3_; have GE195 := n4_; clear n0_ n1_ n2_ n3_ n4_; clear hb hbox hg; have hcz9_0 : w8.cell? ⟨gb195, 0, none⟩ = some (.int .i64 0) := (blk_cell BK195.out 0).trans rfl; have hcz9_1 : w8.cell? ⟨gb195, 1, none⟩ = some (.int .i64 0) := (blk_cell BK195.out 1).trans rfl; have hfz9_0 := blk_frozen BK195.out 0; have hfz9_1 := blk_frozen BK195.out 1))
            go_roundg k1
            case measure => have := HK1.out; omega
            case rel => exact ⟨(wrap64 (x3_1 + (wrap64 ((wrap64 (((rd_T35 t191 x9_1).f1) - ((rd_T35 t191 x9_1).f0))) + 1)))), (wrap64 (x9_1 + 1)), (by first | rfl | (simp; done) | (simp [*]; done) | (simp [*, bne]; done)), (by first | rfl | (simp; done) | (simp [*]; done) | (simp [*, bne]; done)), H', ⟨by have := HK1.out; omega⟩, ⟨by (with_reducible repeat (first | apply Kd.R_alloc | apply Kd.R_drewN | apply Kd.R_drew)); exact Kd.R_mono (Kd.R_far (p := ⟨gb195, 1, none⟩) (Kd.R_far (p := ⟨gb195, 0, none⟩) (Kd.R_mono HO_7.out (fun k_ hk => (⟨hk, hk.2⟩ : _ ∧ k_ ≠ gb195))) (fun _ hk => hk.2) (.int .i64 ((rd_T35 t191 x9_1).f0))) (fun _ hk => hk.2) (.int .i64 ((rd_T35 t191 x9_1).f1))) (fun _ hk => trivial)⟩, ⟨by repeat (first | (with_reducible first | exact HB.out | apply below_alloc | apply pw_below_drewN | apply below_drew1 | refine below_set ?_ GE195.out) | exact HB.out)⟩⟩
          · rw [if_neg c7] at H
            exact absurd H (by simp)
        · rw [if_neg c6] at H
          exact absurd H (by simp)
      · rw [if_neg c5] at H
        have c5b0 : decide (x9_1 < (t191.length : Int)) = false := decide_eq_false c5
        clear c5
        obtain rfl := Option.some.inj H
        go_wp2
        go_ret
        exact ⟨by first | rfl | (simp [errW_none, errW_some] <;> rfl) | (simp [*, errW_none, errW_some] <;> rfl), by repeat (first | (with_reducible first | exact HB.out | apply below_alloc | apply pw_below_drewN | apply below_drew1) | exact HB.out)⟩

end Go.Proofs.Ytcdahnkdongmdaa.All
