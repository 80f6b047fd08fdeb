/- Texts of the claim TermScalar, merged, without what it does not use. -/
import Derived.Test.YtcdahnkdongmdaaZTermScalarX1
import Derived.Test.YtcdahnkdongmdaaZTermScalarX9
import Derived.Test.YtcdahnkdongmdaaZTermScalarX3
import Derived.Test.YtcdahnkdongmdaaZTermScalarX7
import Derived.Test.YtcdahnkdongmdaaZTermScalarX8
namespace Go.Proofs.Ytcdahnkdongmdaa.All
open Go.RowKit Go.Proofs.YtcdahnkdongmdaaW.PrintWords Go.Proofs.YtcdahnkdongmdaaW.PrintLast Go.Proofs.YtcdahnkdongmdaaW.PrintMore
attribute [local go_sem] max2_int min2_int max_two min_two max_three min_three max_four min_four
set_option linter.unusedVariables false
set_option linter.unusedSimpArgs false
attribute [local go_sem high] eqA35
mutual
def seqs_Part.j0 : Nat → List (List (S35)) → List Int → Int → Int → Bool → Option (Int)
  | 0, _, _, _, _, _ => none
  | k + 1, x0, x1, x2, x7, x17 => if x17 = true then (some x7) else (seqs_Part.l0 k x1 x2 x7 x0 (x0.length : Int) 0)
def seqs_Part.l0 : Nat → List Int → Int → Int → List (List (S35)) → Int → Int → Option (Int)
  | 0, _, _, _, _, _, _ => none
  | k + 1, x1, x2, x7, x19, x20, x21 => if x21 < x20 then (if 0 ≤ x21 then (if x21 < (x19.length : Int) then (if 0 ≤ x2 then (if x2 ≤ (x1.length : Int) then ((seqs_fits.f (rd_L2 x19 x21) (x1.drop (x2 : Int).toNat)).bind fun t171 => (seqs_Part.l0 k x1 x2 (mx x7 t171) x19 x20 (wrap64 (x21 + 1)))) else (none)) else (none)) else (none)) else (none)) else (some x7)
end
def seqs_Part.f (k : Nat) (l0 : List (List (S35))) (l1 : List Int) (a2 : Int) : Option (Int) := if a2 < 0 then (seqs_Part.j0 k l0 l1 a2 0 true) else (seqs_Part.j0 k l0 l1 a2 0 (decide (a2 > (l1.length : Int))))
theorem seqs_Part.mono_l : ∀ k, (∀ y0 y1 y2 y3 y4, LeO (seqs_Part.j0 k y0 y1 y2 y3 y4) (seqs_Part.j0 (k + 1) y0 y1 y2 y3 y4)) ∧ (∀ y0 y1 y2 y3 y4 y5, LeO (seqs_Part.l0 k y0 y1 y2 y3 y4 y5) (seqs_Part.l0 (k + 1) y0 y1 y2 y3 y4 y5))
  | 0 => ⟨fun _ _ _ _ _ r h => by simp [seqs_Part.j0] at h, fun _ _ _ _ _ _ r h => by simp [seqs_Part.l0] at h⟩
  | k + 1 => by
    obtain ⟨ih0, ih1⟩ := seqs_Part.mono_l k
    refine ⟨?_, ?_⟩
    · intro y0 y1 y2 y3 y4
      unfold seqs_Part.j0
      repeat' first
      | (with_reducible exact ih0 _ _ _ _ _)
      | (with_reducible exact ih1 _ _ _ _ _ _)
      | (with_reducible exact LeO.refl _)
      | (with_reducible exact LeO.none _)
      | (with_reducible refine LeO.ite ?_ ?_)
      | (with_reducible refine LeO.bind ?_ (fun _ => ?_))
      | exact ih0 _ _ _ _ _
      | exact ih1 _ _ _ _ _ _
      | exact LeO.none _
      | refine LeO.ite ?_ ?_
      | refine LeO.bind ?_ (fun _ => ?_)
    · intro y0 y1 y2 y3 y4 y5
      unfold seqs_Part.l0
      repeat' first
      | (with_reducible exact ih0 _ _ _ _ _)
      | (with_reducible exact ih1 _ _ _ _ _ _)
      | (with_reducible exact LeO.refl _)
      | (with_reducible exact LeO.none _)
      | (with_reducible refine LeO.ite ?_ ?_)
      | (with_reducible refine LeO.bind ?_ (fun _ => ?_))
      | exact ih0 _ _ _ _ _
      | exact ih1 _ _ _ _ _ _
      | exact LeO.none _
      | refine LeO.ite ?_ ?_
      | refine LeO.bind ?_ (fun _ => ?_)
theorem seqs_Part.mono : ∀ a0 a1 a2 k, LeO (seqs_Part.f k a0 a1 a2) (seqs_Part.f (k + 1) a0 a1 a2) := by
  intro a0 a1 a2 k
  obtain ⟨ih0, ih1⟩ := seqs_Part.mono_l k
  unfold seqs_Part.f
  repeat' first
      | (with_reducible exact ih0 _ _ _ _ _)
      | (with_reducible exact ih1 _ _ _ _ _ _)
      | (with_reducible exact LeO.refl _)
      | (with_reducible exact LeO.none _)
      | (with_reducible refine LeO.ite ?_ ?_)
      | (with_reducible refine LeO.bind ?_ (fun _ => ?_))
      | exact ih0 _ _ _ _ _
      | exact ih1 _ _ _ _ _ _
      | exact LeO.none _
      | refine LeO.ite ?_ ?_
      | refine LeO.bind ?_ (fun _ => ?_)
set_option maxHeartbeats 8000000 in
set_option maxRecDepth 100000 in
theorem seqs_Part.calls (k : Nat) (A0 : Option Addr) (c0 : Nat) (l0 : List (List (S35))) (A1 : Option Addr) (c1 : Nat) (l1 : List Int) (a2 : Int) (r : Int) (w : World) (hr0 : Kd.C (Kd.slice 35 k35) w A0 l0.length l0) (hc0 : l0.length ≤ c0) (hr1 : Kd.C (Kd.int .u8) w A1 l1.length l1) (hc1 : l1.length ≤ c1) (h : seqs_Part.f k l0 l1 a2 = some r) :
    Calls Try.prog 19 #[.slice A0 l0.length c0, .slice A1 l1.length c1, .int .i64 a2] w fun e w' => e = .returned (.int .i64 r) ∧ Below w.heap.size w w' := by
  have HR0 := Aside0.mk hr0
  have HC0 := Aside0.mk hc0
  clear hr0 hc0
  have HR1 := Aside0.mk hr1
  have HC1 := Aside0.mk hc1
  clear hr1 hc1
  have HB := Aside0.mk (Below.refl w.heap.size w)
  have H : (if a2 < 0 then (seqs_Part.j0 k l0 l1 a2 0 true) else (seqs_Part.j0 k l0 l1 a2 0 (decide (a2 > (l1.length : Int))))) = some r := h
  clear h
  have HC4 := Aside0.mk H
  clear H
  go_enter Try.func19, Try.ntmps19
  go_upto_region 2 with (fail)
  go_cut [17] (fun v17 wc => ∃ (kq : Nat) (x17_3 : Bool), v17 = .bool x17_3 ∧ Aside0 (seqs_Part.j0 kq l0 l1 a2 0 x17_3 = some r) ∧ Aside0 (kq ≤ k) ∧ Aside0 (Below w.heap.size w wc))
  case first =>
    have H := HC4.out
    clear HC4
    by_cases c5 : a2 < 0
    · rw [if_pos c5] at H
      have c5b0 : decide (a2 < 0) = true := decide_eq_true c5
      clear c5
      (first | rw [c5b0] | (simp only [i64_w, i32_w]; rw [c5b0]) | skip)
      have H' := Aside0.mk H
      clear H
      go_wp2
      go_meet
      case rel => exact ⟨_, (true), (by first | rfl | (simp; done) | (simp [*]; done) | (simp [*, bne]; done)), H', ⟨by first | omega | exact Nat.le_refl _⟩, ⟨by repeat (first | (with_reducible first | exact HB.out | apply below_alloc | apply pw_below_drewN | apply below_drew1) | exact HB.out)⟩⟩
    · rw [if_neg c5] at H
      have c5b0 : decide (a2 < 0) = false := decide_eq_false c5
      clear c5
      (first | rw [c5b0] | (simp only [i64_w, i32_w]; rw [c5b0]) | skip)
      have H' := Aside0.mk H
      clear H
      go_wp2
      go_meet
      case rel => exact ⟨_, (decide (a2 > (l1.length : Int))), (by first | rfl | (simp; done) | (simp [*]; done) | (simp [*, bne]; done)), H', ⟨by first | omega | exact Nat.le_refl _⟩, ⟨by repeat (first | (with_reducible first | exact HB.out | apply below_alloc | apply pw_below_drewN | apply below_drew1) | exact HB.out)⟩⟩
  case rest =>
    clear HC4
    try clear c1
    try clear p2
    try clear c5
    try clear c5b0
    obtain ⟨kq, x17_3, rfl, HA, HJ3, HB⟩ := hcut
    cases kq with
    | zero => exact absurd HA.out (by simp [seqs_Part.j0])
    | succ kj3 =>
      have H := HA.out
      clear HA
      simp only [seqs_Part.j0] at H
      by_cases c6 : x17_3 = true
      · subst c6
        have H1 : (some 0) = some r := by rw [if_pos rfl] at H; exact H
        clear H
        have H := H1
        clear H1
        obtain rfl := Option.some.inj H
        go_wp2
        go_ret
        exact ⟨by first | rfl | (simp [errW_none, errW_some] <;> rfl) | (simp [*, errW_none, errW_some] <;> rfl), by repeat (first | (with_reducible first | exact HB.out | apply below_alloc | apply pw_below_drewN | apply below_drew1) | exact HB.out)⟩
      · replace c6 := Bool.eq_false_iff.mpr c6
        subst c6
        have H1 : (seqs_Part.l0 kj3 l1 a2 0 l0 (l0.length : Int) 0) = some r := by rw [if_neg (show ¬ (false = true) by decide)] at H; exact H
        clear H
        have H := H1
        clear H1
        have H' := Aside0.mk H
        clear H
        go_wp2
        go_loopg [7, 21] kj3 (fun kq v7 v21 w' => ∃ (x7_2 : Int) (x21_2 : Int), v7 = .int .i64 x7_2 ∧ v21 = .int .i64 x21_2 ∧ Aside0 (seqs_Part.l0 kq l1 a2 x7_2 l0 (l0.length : Int) x21_2 = some r) ∧ Aside0 (kq ≤ kj3) ∧ Aside0 (Below w.heap.size w w'))
        case atStart => exact ⟨(0), (0), (by first | rfl | (simp; done) | (simp [*]; done) | (simp [*, bne]; done)), (by first | rfl | (simp; done) | (simp [*]; done) | (simp [*, bne]; done)), H', ⟨Nat.le_refl _⟩, ⟨by repeat (first | (with_reducible first | exact HB.out | apply below_alloc | apply pw_below_drewN | apply below_drew1) | exact HB.out)⟩⟩
        case round =>
          clear H'
          try clear c1
          try clear p2
          try clear c5
          try clear c5b0
          try clear c6
          try clear p2
          obtain ⟨x7_2, x21_2, rfl, rfl, HA, HK2, HB⟩ := hrel
          cases gk with
          | zero => exact absurd HA.out (by simp [seqs_Part.l0])
          | succ k2 =>
            have H := HA.out
            clear HA
            simp only [seqs_Part.l0] at H
            by_cases c7 : x21_2 < (l0.length : Int)
            · rw [if_pos c7] at H
              have c7b0 : decide (x21_2 < (l0.length : Int)) = true := decide_eq_true c7
              clear c7
              by_cases c8 : 0 ≤ x21_2
              · rw [if_pos c8] at H
                have c8b0 : decide (0 ≤ x21_2) = true := decide_eq_true c8
                clear c8
                by_cases c9 : x21_2 < (l0.length : Int)
                · rw [if_pos c9] at H
                  have c9b0 : decide (x21_2 < (l0.length : Int)) = true := decide_eq_true c9
                  clear c9
                  by_cases c10 : 0 ≤ a2
                  · rw [if_pos c10] at H
                    have c10b0 := eq_true c10
                    have c10b1 : decide (0 ≤ a2) = true := decide_eq_true c10
                    clear c10
                    by_cases c11 : a2 ≤ (l1.length : Int)
                    · rw [if_pos c11] at H
                      have c11b0 := eq_true c11
                      have c11b1 : decide (a2 ≤ (l1.length : Int)) = true := decide_eq_true c11
                      clear c11
                      obtain ⟨y167, hy167⟩ : ∃ y_ : List Int, y_ = (l1.drop (a2 : Int).toNat) := ⟨_, rfl⟩
                      replace H : ((seqs_fits.f (rd_L2 l0 x21_2) y167).bind fun t171 => (seqs_Part.l0 k2 l1 a2 (mx x7_2 t171) l0 (l0.length : Int) (wrap64 (x21_2 + 1)))) = some r := by first | (rw [hy167]; with_reducible exact H) | (have H2_ := (Option.bind_some _ _).symm.trans H; rw [hy167]; with_reducible exact H2_) | (have H2_ := (Option.bind_some _ _).symm.trans H; with_reducible exact H2_) | with_reducible exact H | (rw [hy167]; exact H) | exact H
                      have Ny167 := Aside0.mk hy167
                      clear hy167
                      replace H := Option.bind_eq_some_iff.mp H
                      obtain ⟨t171, A120, H⟩ := H
                      replace H : (seqs_Part.l0 k2 l1 a2 (mx x7_2 t171) l0 (l0.length : Int) (wrap64 (x21_2 + 1))) = some r := H
                      have A12 := Aside0.mk A120
                      clear A120
                      obtain ⟨ji13, hji13⟩ : ∃ j_ : Int, (mx x7_2 t171) = j_ := ⟨_, rfl⟩
                      replace H : (seqs_Part.l0 k2 l1 a2 ji13 l0 (l0.length : Int) (wrap64 (x21_2 + 1))) = some r := by first | (rw [hji13] at H; exact H) | (simp only [hji13] at H ⊢; exact H)
                      (try rw [hji13] at A12)
                      have hji13_ : (if x7_2 < t171 then t171 else x7_2) = ji13 := hji13
                      have H' := Aside0.mk H
                      clear H
                      have p166 : 0 ≤ (x21_2 : Int) := of_decide_eq_true (by first | (with_reducible assumption) | assumption)
                      have q166 : x21_2 < (l0.length : Int) := of_decide_eq_true (by first | (with_reducible assumption) | assumption)
                      obtain ⟨ad166, A166_0, c166_0, e166, hx166_0, hl166_0, hi166_0⟩ := at_L2 HR0.out x21_2 p166 q166
                      cases e166
                      replace hx166_0 := (HB.out.cell (World.block_lt_of_cell? w _ hx166_0)).trans hx166_0
                      have HR166_0 := Aside0.mk hi166_0
                      have HC166_0 := Aside0.mk hl166_0
                      clear hi166_0 hl166_0
                      replace p166 := eq_true p166
                      replace q166 := eq_true q166
                      have q14 : (a2 : Int) ≤ ((l1.length : Int) : Int) := of_decide_eq_true (by first | (with_reducible assumption) | assumption)
                      obtain ⟨i014, hi014, _, hsz14, _⟩ := info_parts info5
                      have hroom14 : l1.length ≤ c1 := HC1.out
                      have hC14 : Kd.C (Kd.int .u8) _ A1 l1.length l1 := HR1.out
                      have q014 : (0 : Int) ≤ (a2 : Int) := of_decide_eq_true (by first | (with_reducible assumption) | assumption)
                      have hcut14 := cut_from (P := Try.prog) 24 5 .i64 Try.underlying24 hi014 1 hsz14 A1 l1.length c1 a2 q014 q14
                      have hr14 := Kd.C_drop (m := (a2 : Int).toNat) (c := c1) hC14 (by omega) hroom14
                      obtain ⟨A14, hA14⟩ : ∃ A1_, A1_ = (if c1 = (a2 : Int).toNat then A1 else (A1 : Option Addr).map (·.add ((a2 : Int).toNat * 1))) := ⟨_, rfl⟩
                      obtain ⟨c14, hc14⟩ : ∃ c1_, c1_ = c1 - (a2 : Int).toNat := ⟨_, rfl⟩
                      have hy14 : y167.length = l1.length - (a2 : Int).toNat := (by rw [Ny167.out, List.length_drop] <;> omega)
                      rw [show (l1).drop (a2 : Int).toNat = y167 from Ny167.out.symm] at hr14
                      replace hr14 : Kd.C (Kd.int .u8) _ A14 y167.length y167 := (by rw [hA14]; exact hr14)
                      rw [← hy14, ← hA14, ← hc14] at hcut14
                      have HR170 := Aside0.mk hr14
                      have HC170 := Aside0.mk (show y167.length ≤ c14 from by rw [hy14, hc14]; exact Nat.sub_le_sub_right hroom14 _)
                      clear hr14 hC14 hroom14 hi014 hsz14 hc14
                      have KY14 := Aside0.mk hy14
                      have KA14 := Aside0.mk hA14
                      clear hy14 hA14
                      replace q14 := eq_true q14
                      go_wp2_with (first | ((with_reducible refine gate_callee (f := 40) rfl ?_); refine goesL_ (some 30) rfl rfl Try.func40 (by kernel_rfl) rfl #[.slice A166_0 (rd_L2 l0 x21_2).length c166_0, .slice A14 y167.length c14] rfl (by (try simp only [List.map_toArray, List.map_cons, List.map_nil]); first | done | rfl | (simp only [List.length_drop, List.length_take]; rfl)) ?_; (with_reducible refine (seqs_fits.calls _ _ (rd_L2 l0 x21_2) _ _ y167 t171 _ ?side1 ?side2 ?side3 ?side4 A12.out).mono ?_); (case side1 => repeat (first | exact (Kd.C_below HR166_0.out HB.out) | (with_reducible refine Kd.C_alloc ?_ _) | (with_reducible refine Kd.C_drewN ?_ _) | (with_reducible refine Kd.C_drew ?_))); (case side2 => exact HC166_0.out); (case side3 => repeat (first | exact (Kd.C_below HR170.out HB.out) | (with_reducible refine Kd.C_alloc ?_ _) | (with_reducible refine Kd.C_drewN ?_ _) | (with_reducible refine Kd.C_drew ?_))); (case side4 => exact HC170.out); rintro e w15 ⟨rfl, hb⟩; refine ⟨_, rfl, ?_⟩; have n0_ := Aside0.mk (below_step (by repeat (first | (with_reducible first | exact HB.out | apply below_alloc | apply pw_below_drewN | apply below_drew1) | exact HB.out)) hb); clear HB; have HB := n0_; clear n0_; (try clear hb); (try clear hb2); (try clear hk); (try clear hi)))
                      go_roundg k2
                      case measure => have := HJ3.out; have := HK2.out; omega
                      case rel => exact ⟨(ji13), (wrap64 (x21_2 + 1)), (by first | rfl | (simp; done) | (simp only [← hji13] <;> (first | rfl | simp)) | (simp [*]; done)), (by first | rfl | (simp; done) | (simp [*]; done) | (simp [*, bne]; done)), (by first | exact H' | (subst hji13; exact H')), ⟨by have := HJ3.out; have := HK2.out; omega⟩, ⟨by repeat (first | (with_reducible first | exact HB.out | apply below_alloc | apply pw_below_drewN | apply below_drew1) | exact HB.out)⟩⟩
                    · rw [if_neg c11] at H
                      exact absurd H (by simp)
                  · rw [if_neg c10] at H
                    exact absurd H (by simp)
                · rw [if_neg c9] at H
                  exact absurd H (by simp)
              · rw [if_neg c8] at H
                exact absurd H (by simp)
            · rw [if_neg c7] at H
              have c7b0 : decide (x21_2 < (l0.length : Int)) = false := decide_eq_false c7
              clear c7
              obtain rfl := Option.some.inj H
              go_wp2
              go_ret
              exact ⟨by first | rfl | (simp [errW_none, errW_some] <;> rfl) | (simp [*, errW_none, errW_some] <;> rfl), by repeat (first | (with_reducible first | exact HB.out | apply below_alloc | apply pw_below_drewN | apply below_drew1) | exact HB.out)⟩
end Go.Proofs.Ytcdahnkdongmdaa.All
