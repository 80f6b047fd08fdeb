/- Texts of the claim TermBounds, merged, without what it does not use. -/
import Derived.Test.YtcdahnkdongmdaaZTermBoundsX1
import Derived.Test.YtcdahnkdongmdaaZTermBoundsX4
import Derived.Test.YtcdahnkdongmdaaZTermBoundsX5
import Derived.Test.YtcdahnkdongmdaaZTermBoundsX7
import Derived.Test.YtcdahnkdongmdaaZTermBoundsH6
import Derived.Test.YtcdahnkdongmdaaZTermBoundsH7
import Derived.Test.YtcdahnkdongmdaaZTermBoundsH8
import Derived.Test.YtcdahnkdongmdaaZTermBoundsH9
import Derived.Lib.SmallJoins
namespace Go.Proofs.Ytcdahnkdongmdaa.All
open Go.RowKit Go.Proofs.YtcdahnkdongmdaaW.PrintWords Go.Proofs.YtcdahnkdongmdaaW.PrintLast Go.Proofs.YtcdahnkdongmdaaW.PrintMore
attribute [local go_sem] max2_int min2_int max_two min_two max_three min_three max_four min_four
set_option linter.unusedVariables false
set_option linter.unusedSimpArgs false
mutual
def seqs_Of.l0 : Nat → List (List (S35)) → List (S35) → Int → Int → Option ((List (List (S35))))
  | 0, _, _, _, _ => none
  | k + 1, x3, x13, x14, x15 => if x15 < x14 then (if 0 ≤ x15 then (if x15 < (x13.length : Int) then ((seqs_kinds.f).bind fun t141 => (seqs_Of.l1 k x3 x13 x14 x15 0 ((rd_T35 x13 x15).f0) ((rd_T35 x13 x15).f1))) else (none)) else (none)) else (some x3)
def seqs_Of.l1 : Nat → List (List (S35)) → List (S35) → Int → Int → Int → Int → Int → Option ((List (List (S35))))
  | 0, _, _, _, _, _, _, _ => none
  | k + 1, x3, x13, x14, x15, x20, x141000, x141001 => if x20 < 5 then (if 0 ≤ x20 then ((ranges_Both.f (([(⟨x141000, x141001⟩ : S35)] : List (S35))) (([(⟨Own.kLo x20, Own.kHi x20⟩ : S35)] : List (S35)))).bind fun t149 => (seqs_Of.l2 k x3 t149 (Own.kMore x20) x13 x14 x15 x20 x141000 x141001)) else (none)) else (seqs_Of.l0 k x3 x13 x14 (wrap64 (x15 + 1)))
def seqs_Of.l2 : Nat → List (List (S35)) → List (S35) → Int → List (S35) → Int → Int → Int → Int → Int → Option ((List (List (S35))))
  | 0, _, _, _, _, _, _, _, _, _ => none
  | k + 1, x3, x8, x9, x13, x14, x15, x20, x141000, x141001 => if x9 > 0 then ((seqs_split.f k (wrap64 (x9 * 6)) x8).bind fun t152 => (seqs_Of.l2 k x3 t152 (wrap64 (x9 - 1)) x13 x14 x15 x20 x141000 x141001)) else (seqs_Of.l3 k x3 x13 x14 x15 x20 x8 (x8.length : Int) 0 x141000 x141001)
def seqs_Of.l3 : Nat → List (List (S35)) → List (S35) → Int → Int → Int → List (S35) → Int → Int → Int → Int → Option ((List (List (S35))))
  | 0, _, _, _, _, _, _, _, _, _, _ => none
  | k + 1, x3, x13, x14, x15, x20, x39, x40, x41, x141000, x141001 => if x41 < x40 then (if 0 ≤ x41 then (if x41 < (x39.length : Int) then ((seqs_one.f k ((rd_T35 x39 x41).f0) ((rd_T35 x39 x41).f1)).bind fun t157 => (if x3.length < 5864062014805 then (seqs_Of.l3 k (x3 ++ [t157]) x13 x14 x15 x20 x39 x40 (wrap64 (x41 + 1)) x141000 x141001) else (none))) else (none)) else (none)) else (seqs_Of.l1 k x3 x13 x14 x15 (wrap64 (x20 + 1)) x141000 x141001)
end
def seqs_Of.f (k : Nat) (l0 : List (S35)) : Option ((List (List (S35)))) := (ranges_Norm.f l0).bind fun t136 => (seqs_Of.l0 k ([] : List (List (S35))) t136 (t136.length : Int) 0)
theorem seqs_Of.mono_l : ∀ k, (∀ y0 y1 y2 y3, LeO (seqs_Of.l0 k y0 y1 y2 y3) (seqs_Of.l0 (k + 1) y0 y1 y2 y3)) ∧ (∀ y0 y1 y2 y3 y4 y5 y6, LeO (seqs_Of.l1 k y0 y1 y2 y3 y4 y5 y6) (seqs_Of.l1 (k + 1) y0 y1 y2 y3 y4 y5 y6)) ∧ (∀ y0 y1 y2 y3 y4 y5 y6 y7 y8, LeO (seqs_Of.l2 k y0 y1 y2 y3 y4 y5 y6 y7 y8) (seqs_Of.l2 (k + 1) y0 y1 y2 y3 y4 y5 y6 y7 y8)) ∧ (∀ y0 y1 y2 y3 y4 y5 y6 y7 y8 y9, LeO (seqs_Of.l3 k y0 y1 y2 y3 y4 y5 y6 y7 y8 y9) (seqs_Of.l3 (k + 1) y0 y1 y2 y3 y4 y5 y6 y7 y8 y9))
  | 0 => ⟨fun _ _ _ _ r h => by simp [seqs_Of.l0] at h, fun _ _ _ _ _ _ _ r h => by simp [seqs_Of.l1] at h, fun _ _ _ _ _ _ _ _ _ r h => by simp [seqs_Of.l2] at h, fun _ _ _ _ _ _ _ _ _ _ r h => by simp [seqs_Of.l3] at h⟩
  | k + 1 => by
    obtain ⟨ih0, ih1, ih2, ih3⟩ := seqs_Of.mono_l k
    refine ⟨?_, ?_, ?_, ?_⟩
    · intro y0 y1 y2 y3
      unfold seqs_Of.l0
      repeat' first
      | (with_reducible exact ih0 _ _ _ _)
      | (with_reducible exact ih1 _ _ _ _ _ _ _)
      | (with_reducible exact ih2 _ _ _ _ _ _ _ _ _)
      | (with_reducible exact ih3 _ _ _ _ _ _ _ _ _ _)
      | (with_reducible exact seqs_one.mono _ _ _)
      | (with_reducible exact seqs_split.mono _ _ _)
      | (with_reducible exact LeO.refl _)
      | (with_reducible exact LeO.none _)
      | (with_reducible refine LeO.ite ?_ ?_)
      | (with_reducible refine LeO.bind ?_ (fun _ => ?_))
      | exact ih0 _ _ _ _
      | exact ih1 _ _ _ _ _ _ _
      | exact ih2 _ _ _ _ _ _ _ _ _
      | exact ih3 _ _ _ _ _ _ _ _ _ _
      | exact seqs_one.mono _ _ _
      | exact seqs_split.mono _ _ _
      | exact LeO.none _
      | refine LeO.ite ?_ ?_
      | refine LeO.bind ?_ (fun _ => ?_)
    · intro y0 y1 y2 y3 y4 y5 y6
      unfold seqs_Of.l1
      repeat' first
      | (with_reducible exact ih0 _ _ _ _)
      | (with_reducible exact ih1 _ _ _ _ _ _ _)
      | (with_reducible exact ih2 _ _ _ _ _ _ _ _ _)
      | (with_reducible exact ih3 _ _ _ _ _ _ _ _ _ _)
      | (with_reducible exact seqs_one.mono _ _ _)
      | (with_reducible exact seqs_split.mono _ _ _)
      | (with_reducible exact LeO.refl _)
      | (with_reducible exact LeO.none _)
      | (with_reducible refine LeO.ite ?_ ?_)
      | (with_reducible refine LeO.bind ?_ (fun _ => ?_))
      | exact ih0 _ _ _ _
      | exact ih1 _ _ _ _ _ _ _
      | exact ih2 _ _ _ _ _ _ _ _ _
      | exact ih3 _ _ _ _ _ _ _ _ _ _
      | exact seqs_one.mono _ _ _
      | exact seqs_split.mono _ _ _
      | exact LeO.none _
      | refine LeO.ite ?_ ?_
      | refine LeO.bind ?_ (fun _ => ?_)
    · intro y0 y1 y2 y3 y4 y5 y6 y7 y8
      unfold seqs_Of.l2
      repeat' first
      | (with_reducible exact ih0 _ _ _ _)
      | (with_reducible exact ih1 _ _ _ _ _ _ _)
      | (with_reducible exact ih2 _ _ _ _ _ _ _ _ _)
      | (with_reducible exact ih3 _ _ _ _ _ _ _ _ _ _)
      | (with_reducible exact seqs_one.mono _ _ _)
      | (with_reducible exact seqs_split.mono _ _ _)
      | (with_reducible exact LeO.refl _)
      | (with_reducible exact LeO.none _)
      | (with_reducible refine LeO.ite ?_ ?_)
      | (with_reducible refine LeO.bind ?_ (fun _ => ?_))
      | exact ih0 _ _ _ _
      | exact ih1 _ _ _ _ _ _ _
      | exact ih2 _ _ _ _ _ _ _ _ _
      | exact ih3 _ _ _ _ _ _ _ _ _ _
      | exact seqs_one.mono _ _ _
      | exact seqs_split.mono _ _ _
      | exact LeO.none _
      | refine LeO.ite ?_ ?_
      | refine LeO.bind ?_ (fun _ => ?_)
    · intro y0 y1 y2 y3 y4 y5 y6 y7 y8 y9
      unfold seqs_Of.l3
      repeat' first
      | (with_reducible exact ih0 _ _ _ _)
      | (with_reducible exact ih1 _ _ _ _ _ _ _)
      | (with_reducible exact ih2 _ _ _ _ _ _ _ _ _)
      | (with_reducible exact ih3 _ _ _ _ _ _ _ _ _ _)
      | (with_reducible exact seqs_one.mono _ _ _)
      | (with_reducible exact seqs_split.mono _ _ _)
      | (with_reducible exact LeO.refl _)
      | (with_reducible exact LeO.none _)
      | (with_reducible refine LeO.ite ?_ ?_)
      | (with_reducible refine LeO.bind ?_ (fun _ => ?_))
      | exact ih0 _ _ _ _
      | exact ih1 _ _ _ _ _ _ _
      | exact ih2 _ _ _ _ _ _ _ _ _
      | exact ih3 _ _ _ _ _ _ _ _ _ _
      | exact seqs_one.mono _ _ _
      | exact seqs_split.mono _ _ _
      | exact LeO.none _
      | refine LeO.ite ?_ ?_
      | refine LeO.bind ?_ (fun _ => ?_)
theorem seqs_Of.mono : ∀ a0 k, LeO (seqs_Of.f k a0) (seqs_Of.f (k + 1) a0) := by
  intro a0 k
  obtain ⟨ih0, ih1, ih2, ih3⟩ := seqs_Of.mono_l k
  unfold seqs_Of.f
  repeat' first
      | (with_reducible exact ih0 _ _ _ _)
      | (with_reducible exact ih1 _ _ _ _ _ _ _)
      | (with_reducible exact ih2 _ _ _ _ _ _ _ _ _)
      | (with_reducible exact ih3 _ _ _ _ _ _ _ _ _ _)
      | (with_reducible exact seqs_one.mono _ _ _)
      | (with_reducible exact seqs_split.mono _ _ _)
      | (with_reducible exact LeO.refl _)
      | (with_reducible exact LeO.none _)
      | (with_reducible refine LeO.ite ?_ ?_)
      | (with_reducible refine LeO.bind ?_ (fun _ => ?_))
      | exact ih0 _ _ _ _
      | exact ih1 _ _ _ _ _ _ _
      | exact ih2 _ _ _ _ _ _ _ _ _
      | exact ih3 _ _ _ _ _ _ _ _ _ _
      | exact seqs_one.mono _ _ _
      | exact seqs_split.mono _ _ _
      | exact LeO.none _
      | refine LeO.ite ?_ ?_
      | refine LeO.bind ?_ (fun _ => ?_)
set_option maxHeartbeats 8000000 in
set_option maxRecDepth 100000 in
theorem seqs_Of.calls (k : Nat) (A0 : Option Addr) (c0 : Nat) (l0 : List (S35)) (r : List (List (S35))) (w : World) (hr0 : Kd.C k35 w A0 l0.length l0) (hc0 : l0.length ≤ c0) (h : seqs_Of.f k l0 = some r) :
    Calls Try.prog 16 #[.slice A0 l0.length c0] w fun e w' => ∃ v0_ : Value, e = .returned (v0_) ∧ Kd.S (Kd.slice 35 k35) 22 w' w.heap.size (fun _ => True) v0_ r ∧ Below w.heap.size w w' := by
  have hu35 := Try.underlying35
  have hu62 := Try.underlying62
  have HR0 := Aside0.mk hr0
  have HC0 := Aside0.mk hc0
  clear hr0 hc0
  have HB := Aside0.mk (Below.refl w.heap.size w)
  have H : ((ranges_Norm.f l0).bind fun t136 => (seqs_Of.l0 k ([] : List (List (S35))) t136 (t136.length : Int) 0)) = some r := h
  clear h
  replace H := Option.bind_eq_some_iff.mp H
  obtain ⟨t136, A20, H⟩ := H
  replace H : (seqs_Of.l0 k ([] : List (List (S35))) t136 (t136.length : Int) 0) = some r := H
  have A2 := Aside0.mk A20
  clear A20
  have H' := Aside0.mk H
  clear H
  go_enter Try.func16, Try.ntmps16
  go_wp2_with (first | ((with_reducible refine gate_callee (f := 36) rfl ?_); refine goesL_ (some 13) rfl rfl Try.func36 (by kernel_rfl) rfl #[.slice A0 l0.length c0] rfl (by (try simp only [List.map_toArray, List.map_cons, List.map_nil]); first | done | rfl | (simp only [List.length_drop, List.length_take]; rfl)) ?_; (with_reducible refine (ranges_Norm.calls _ _ l0 t136 _ ?side1 ?side2 A2.out).mono ?_); (case side1 => repeat (first | exact HR0.out | (with_reducible refine Kd.C_alloc ?_ _) | (with_reducible refine Kd.C_drewN ?_ _) | (with_reducible refine Kd.C_drew ?_))); (case side2 => exact HC0.out); rintro e w3 ⟨v137, rfl, ho0, hb⟩; refine ⟨_, rfl, ?_⟩; have n0_ := Aside0.mk (Kd.R_lower ho0 (below_size (by repeat (first | (with_reducible first | exact HB.out | apply below_alloc | apply pw_below_drewN | apply below_drew1) | exact HB.out)))); have n1_ := Aside0.mk (below_step (by repeat (first | (with_reducible first | exact HB.out | apply below_alloc | apply pw_below_drewN | apply below_drew1) | exact HB.out)) hb); clear HB; have HO138 := n0_; have HB := n1_; clear n0_ n1_; (try clear hb); (try clear hb2); (try clear hk); (try clear hi); (try clear ho0); obtain ⟨Ao4, co4, eo4⟩ := Kd.R_slice HO138.out; subst eo4))
  go_loopg [3, 15] k (fun kq v3 v15 w' => ∃ (x3_1 : List (List (S35))) (x15_1 : Int), v15 = .int .i64 x15_1 ∧ Aside0 (seqs_Of.l0 kq x3_1 t136 (t136.length : Int) x15_1 = some r) ∧ Aside0 (kq ≤ k) ∧ Aside0 (Kd.S (Kd.slice 35 k35) 22 w' w.heap.size (fun k_ => some k_ ≠ ((.slice Ao4 t136.length co4) : Value).ownBlock) v3 x3_1) ∧ Aside0 (Kd.R k35 35 w' w.heap.size (fun _ => True) (.slice Ao4 t136.length co4) t136) ∧ Aside0 (Below w.heap.size w w'))
  case atStart => exact ⟨(([] : List (List (S35)))), (0), (by first | rfl | (simp; done) | (simp [*]; done) | (simp [*, bne]; done)), H', ⟨Nat.le_refl _⟩, ⟨by first | exact Kd.S_nil _ _ _ _ _ | exact Kd.N_nil _ _ _ _ _ | exact Kd.V_nil _ _ _ _ _ | exact Kd.Q_nil _ _ _ _ _ | exact Kd.R_nil _ _ _ _ _⟩, ⟨by (with_reducible repeat (first | apply Kd.R_alloc | apply Kd.R_drewN | apply Kd.R_drew)); exact HO138.out⟩, ⟨by repeat (first | (with_reducible first | exact HB.out | apply below_alloc | apply pw_below_drewN | apply below_drew1) | exact HB.out)⟩⟩
  case round =>
    clear H'
    try clear c1
    try clear p2
    try clear c3
    obtain ⟨x3_1, x15_1, rfl, HA, HK1, HO_3, HO_13, HB⟩ := hrel
    cases gk with
    | zero => exact absurd HA.out (by simp [seqs_Of.l0])
    | succ k1 =>
      have H := HA.out
      clear HA
      simp only [seqs_Of.l0] at H
      by_cases c5 : x15_1 < (t136.length : Int)
      · rw [if_pos c5] at H
        have c5b0 : decide (x15_1 < (t136.length : Int)) = true := decide_eq_true c5
        clear c5
        by_cases c6 : 0 ≤ x15_1
        · rw [if_pos c6] at H
          have c6b0 : decide (0 ≤ x15_1) = true := decide_eq_true c6
          clear c6
          by_cases c7 : x15_1 < (t136.length : Int)
          · rw [if_pos c7] at H
            have c7b0 : decide (x15_1 < (t136.length : Int)) = true := decide_eq_true c7
            clear c7
            replace H := Option.bind_eq_some_iff.mp H
            obtain ⟨t141, A80, H⟩ := H
            replace H : (seqs_Of.l1 k1 x3_1 t136 (t136.length : Int) x15_1 0 ((rd_T35 t136 x15_1).f0) ((rd_T35 t136 x15_1).f1)) = some r := H
            have A8 := Aside0.mk A80
            clear A80
            have H' := Aside0.mk H
            clear H
            have p139 : 0 ≤ (x15_1 : Int) := of_decide_eq_true (by first | (with_reducible assumption) | assumption)
            have q139 : x15_1 < (t136.length : Int) := of_decide_eq_true (by first | (with_reducible assumption) | assumption)
            obtain ⟨ad139, e139, hx139_0, hx139_1⟩ := at_T35 (Kd.R_reads' HO_13.out).2.2 x15_1 p139 q139
            cases e139
            replace p139 := eq_true p139
            replace q139 := eq_true q139
            go_wp2_with (first | ((with_reducible refine gate_dst (N := 5) rfl ?_); refine box_event ?hg (N := 5) ?hd (cs := #[.int .i64 0, .int .i64 0]) (t := 35) ?hr ?_; (case hd => rfl); (case hg => rfl); (case hr => first | (go_simp; done) | (go_simp; rfl)); intro gb140 hg w9 hbox hb; have n0_ := Aside0.mk (Kd.S_below (Kd.S_elderB (by (with_reducible repeat (first | apply Kd.S_alloc | apply Kd.S_drewN | apply Kd.S_drew)); exact HO_3.out) gb140 (Nat.le_of_eq hg.symm)) hb); have n1_ := Aside0.mk (Kd.R_below (Kd.R_elderB (by (with_reducible repeat (first | apply Kd.R_alloc | apply Kd.R_drewN | apply Kd.R_drew)); exact HO_13.out) gb140 (Nat.le_of_eq hg.symm)) hb); have n2_ := Aside0.mk (below_step (by repeat (first | (with_reducible first | exact HB.out | apply below_alloc | apply pw_below_drewN | apply below_drew1) | exact HB.out)) hb); have n3_ := Aside0.mk (hbox); have n4_ := Aside0.mk ((by rw [hg]; exact (below_size (by repeat (first | (with_reducible first | exact HB.out | apply below_alloc | apply pw_below_drewN | apply below_drew1) | exact HB.out))) : w.heap.size ≤ gb140)); have n5_ := Aside0.mk ((by rw [hg]; exact (below_size (by repeat (first | (with_reducible first | exact HB.out | apply below_alloc | apply pw_below_drewN | apply below_drew1) | exact HB.out))) : w.heap.size ≤ gb140)); clear HO_3; clear HO_13; clear HB; have HO_3 := n0_; have HO_13 := n1_; have HB := n2_; have BK140 := n3_; have GW140 := n4_; have GE140 := n5_; clear n0_ n1_ n2_ n3_ n4_ n5_; clear hb hbox hg; have hcz10_0 : w9.cell? ⟨gb140, 0, none⟩ = some (.int .i64 0) := (blk_cell BK140.out 0).trans rfl; have hcz10_1 : w9.cell? ⟨gb140, 1, none⟩ = some (.int .i64 0) := (blk_cell BK140.out 1).trans rfl; have hfz10_0 := blk_frozen BK140.out 0; have hfz10_1 := blk_frozen BK140.out 1) | ((with_reducible refine gate_callee (f := 37) rfl ?_); refine goesL_ (some 19) rfl rfl Try.func37 (by kernel_rfl) rfl #[] rfl (by (try simp only [List.map_toArray, List.map_cons, List.map_nil]); first | done | rfl | (simp only [List.length_drop, List.length_take]; rfl)) ?_; (with_reducible refine (seqs_kinds.calls  t141 _ A8.out).mono ?_); rintro e w11 ⟨rfl, hb⟩; refine ⟨_, rfl, ?_⟩; have n0_ := Aside0.mk (Kd.S_below (by (with_reducible repeat (first | apply Kd.S_alloc | apply Kd.S_drewN | apply Kd.S_drew)); exact (Kd.S_mono (Kd.S_far (p := ⟨gb140, 1, none⟩) (Kd.S_far (p := ⟨gb140, 0, none⟩) (Kd.S_mono HO_3.out (fun k_ hk => (⟨hk, hk.2⟩ : _ ∧ k_ ≠ gb140))) (fun _ hk => hk.2) (.int .i64 ((rd_T35 t136 x15_1).f0))) (fun _ hk => hk.2) (.int .i64 ((rd_T35 t136 x15_1).f1))) (fun _ h_ => h_.1))) hb); have n1_ := Aside0.mk (Kd.R_below (by (with_reducible repeat (first | apply Kd.R_alloc | apply Kd.R_drewN | apply Kd.R_drew)); exact (Kd.R_mono (Kd.R_far (p := ⟨gb140, 1, none⟩) (Kd.R_far (p := ⟨gb140, 0, none⟩) (Kd.R_mono HO_13.out (fun k_ hk => (⟨hk, hk.2⟩ : _ ∧ k_ ≠ gb140))) (fun _ hk => hk.2) (.int .i64 ((rd_T35 t136 x15_1).f0))) (fun _ hk => hk.2) (.int .i64 ((rd_T35 t136 x15_1).f1))) (fun _ h_ => h_.1))) hb); have n2_ := Aside0.mk (blk_below (g := gb140) (o := .cells #[.int .i64 ((rd_T35 t136 x15_1).f0), .int .i64 ((rd_T35 t136 x15_1).f1)] 35 (0, 0)) (by (with_reducible repeat (first | refine blk_drewN ?_ _ | refine blk_drew ?_ | refine blk_alloc ?_ _)); refine blk_put (cs := #[.int .i64 ((rd_T35 t136 x15_1).f0), .int .i64 0]) ?_ 1 _ rfl; (with_reducible repeat (first | refine blk_drewN ?_ _ | refine blk_drew ?_ | refine blk_alloc ?_ _)); refine blk_put (cs := #[.int .i64 0, .int .i64 0]) ?_ 0 _ rfl; (with_reducible repeat (first | refine blk_drewN ?_ _ | refine blk_drew ?_ | refine blk_alloc ?_ _)); exact BK140.out) hb); have n3_ := Aside0.mk (below_step (by repeat (first | (with_reducible first | exact HB.out | apply below_alloc | apply pw_below_drewN | apply below_drew1 | refine below_set ?_ GE140.out) | exact HB.out)) hb); clear HO_3; clear HO_13; clear BK140; clear HB; have HO_3 := n0_; have HO_13 := n1_; have BK140 := n2_; have HB := n3_; clear n0_ n1_ n2_ n3_; (try clear hb); (try clear hb2); (try clear hk); (try clear hi)))
            go_loopg [3, 20] k1 (fun kq v3 v20 w' => ∃ (x3_2 : List (List (S35))) (x20_2 : Int), v20 = .int .i64 x20_2 ∧ Aside0 (seqs_Of.l1 kq x3_2 t136 (t136.length : Int) x15_1 x20_2 ((rd_T35 t136 x15_1).f0) ((rd_T35 t136 x15_1).f1) = some r) ∧ Aside0 (kq ≤ k1) ∧ Aside0 (Kd.S (Kd.slice 35 k35) 22 w' w.heap.size (fun k_ => some k_ ≠ ((.slice (some ad139) t136.length co4) : Value).ownBlock ∧ k_ ≠ gb140) v3 x3_2) ∧ Aside0 (Kd.R k35 35 w' w.heap.size (fun k_ => k_ ≠ gb140) (.slice (some ad139) t136.length co4) t136) ∧ Aside0 (w'.heap[gb140]? = some (.cells #[.int .i64 ((rd_T35 t136 x15_1).f0), .int .i64 ((rd_T35 t136 x15_1).f1)] 35 (0, 0))) ∧ Aside0 (Below w.heap.size w w'))
            case atStart => exact ⟨(x3_1), (0), (by first | rfl | (simp; done) | (simp [*]; done) | (simp [*, bne]; done)), H', ⟨Nat.le_refl _⟩, ⟨by (with_reducible repeat (first | apply Kd.S_alloc | apply Kd.S_drewN | apply Kd.S_drew)); exact HO_3.out⟩, ⟨by (with_reducible repeat (first | apply Kd.R_alloc | apply Kd.R_drewN | apply Kd.R_drew)); exact Kd.R_mono HO_13.out (fun _ hk => hk.2)⟩, ⟨by (with_reducible repeat (first | refine blk_drewN ?_ _ | refine blk_drew ?_ | refine blk_alloc ?_ _)); exact BK140.out⟩, ⟨by repeat (first | (with_reducible first | exact HB.out | apply below_alloc | apply pw_below_drewN | apply below_drew1 | refine below_set ?_ GE140.out) | exact HB.out)⟩⟩
            case round =>
              clear H'
              try clear c1
              try clear p1
              try clear q1
              try clear hx1
              try clear p2
              try clear c3
              try clear c5
              try clear c5b0
              try clear c6
              try clear c6b0
              try clear c7
              try clear c7b0
              try clear hcz10_0
              try clear hcz10_1
              try clear hfz10_0
              try clear hfz10_1
              try clear hx139_0
              try clear hx139_1
              try clear p139
              try clear p2
              try clear q139
              obtain ⟨x3_2, x20_2, rfl, HA, HK2, HO_3, HO_13, BK140, HB⟩ := hrel
              cases gk with
              | zero => exact absurd HA.out (by simp [seqs_Of.l1])
              | succ k2 =>
                have H := HA.out
                clear HA
                simp only [seqs_Of.l1] at H
                by_cases c12 : x20_2 < 5
                · rw [if_pos c12] at H
                  have c12b0 : decide (x20_2 < 5) = true := decide_eq_true c12
                  clear c12
                  by_cases c13 : 0 ≤ x20_2
                  · rw [if_pos c13] at H
                    have c13b0 : decide (0 ≤ x20_2) = true := decide_eq_true c13
                    (try (have hki := Own.idx_kinds x20_2 (of_decide_eq_true c13b0) (of_decide_eq_true (by assumption))))
                    clear c13
                    obtain ⟨y143, hy143⟩ : ∃ y_ : List (S35), y_ = (([(⟨((rd_T35 t136 x15_1).f0), ((rd_T35 t136 x15_1).f1)⟩ : S35)] : List (S35))) := ⟨_, rfl⟩
                    replace H : ((ranges_Both.f y143 (([(⟨Own.kLo x20_2, Own.kHi x20_2⟩ : S35)] : List (S35)))).bind fun t149 => (seqs_Of.l2 k2 x3_2 t149 (Own.kMore x20_2) t136 (t136.length : Int) x15_1 x20_2 ((rd_T35 t136 x15_1).f0) ((rd_T35 t136 x15_1).f1))) = some r := by first | (rw [hy143]; with_reducible exact H) | (have H2_ := (Option.bind_some _ _).symm.trans H; rw [hy143]; with_reducible exact H2_) | (have H2_ := (Option.bind_some _ _).symm.trans H; with_reducible exact H2_) | with_reducible exact H | (rw [hy143]; exact H) | exact H
                    have Ny143 := Aside0.mk hy143
                    clear hy143
                    obtain ⟨y146, hy146⟩ : ∃ y_ : List (S35), y_ = (([(⟨Own.kLo x20_2, Own.kHi x20_2⟩ : S35)] : List (S35))) := ⟨_, rfl⟩
                    replace H : ((ranges_Both.f y143 y146).bind fun t149 => (seqs_Of.l2 k2 x3_2 t149 (Own.kMore x20_2) t136 (t136.length : Int) x15_1 x20_2 ((rd_T35 t136 x15_1).f0) ((rd_T35 t136 x15_1).f1))) = some r := by first | (rw [hy146]; with_reducible exact H) | (have H2_ := (Option.bind_some _ _).symm.trans H; rw [hy146]; with_reducible exact H2_) | (have H2_ := (Option.bind_some _ _).symm.trans H; with_reducible exact H2_) | with_reducible exact H | (rw [hy146]; exact H) | exact H
                    have Ny146 := Aside0.mk hy146
                    clear hy146
                    replace H := Option.bind_eq_some_iff.mp H
                    obtain ⟨t149, A140, H⟩ := H
                    replace H : (seqs_Of.l2 k2 x3_2 t149 (Own.kMore x20_2) t136 (t136.length : Int) x15_1 x20_2 ((rd_T35 t136 x15_1).f0) ((rd_T35 t136 x15_1).f1)) = some r := H
                    have A14 := Aside0.mk A140
                    clear A140
                    have H' := Aside0.mk H
                    clear H
                    go_wp2_with (first | ((with_reducible refine gate_dst (N := 7) rfl ?_); refine box_event ?hg (N := 7) ?hd (cs := #[.int .i64 0, .int .i64 0, .int .i64 0]) (t := 62) ?hr ?_; (case hd => rfl); (case hg => rfl); (case hr => first | (go_simp; done) | (go_simp; rfl)); intro gb142 hg w15 hbox hb; have n0_ := Aside0.mk (Kd.S_below (by (with_reducible repeat (first | apply Kd.S_alloc | apply Kd.S_drewN | apply Kd.S_drew)); exact HO_3.out) hb); have n1_ := Aside0.mk (Kd.R_below (by (with_reducible repeat (first | apply Kd.R_alloc | apply Kd.R_drewN | apply Kd.R_drew)); exact HO_13.out) hb); have n2_ := Aside0.mk (blk_below (g := gb140) (o := .cells #[.int .i64 ((rd_T35 t136 x15_1).f0), .int .i64 ((rd_T35 t136 x15_1).f1)] 35 (0, 0)) (by (with_reducible repeat (first | refine blk_drewN ?_ _ | refine blk_drew ?_ | refine blk_alloc ?_ _)); exact BK140.out) hb); have n3_ := Aside0.mk (below_step (by repeat (first | (with_reducible first | exact HB.out | apply below_alloc | apply pw_below_drewN | apply below_drew1 | refine below_set ?_ GE140.out) | exact HB.out)) hb); have n4_ := Aside0.mk (hbox); have n5_ := Aside0.mk ((by rw [hg]; exact (below_size (by repeat (first | (with_reducible first | exact HB.out | apply below_alloc | apply pw_below_drewN | apply below_drew1 | refine below_set ?_ GE140.out) | exact HB.out))) : w.heap.size ≤ gb142)); have n6_ := Aside0.mk ((by rw [hg]; exact (below_size (by repeat (first | (with_reducible first | exact HB.out | apply below_alloc | apply pw_below_drewN | apply below_drew1 | refine below_set ?_ GE140.out) | exact HB.out))) : w.heap.size ≤ gb142)); have n7_ := Aside0.mk ((by rw [hg]; exact Nat.ne_of_lt (blk_lt (g := gb140) (o := .cells #[.int .i64 ((rd_T35 t136 x15_1).f0), .int .i64 ((rd_T35 t136 x15_1).f1)] 35 (0, 0)) (by (with_reducible repeat (first | refine blk_drewN ?_ _ | refine blk_drew ?_ | refine blk_alloc ?_ _)); exact BK140.out)) : gb140 ≠ gb142)); have n8_ := Aside0.mk ((by rw [hg]; exact Nat.ne_of_gt (blk_lt (g := gb140) (o := .cells #[.int .i64 ((rd_T35 t136 x15_1).f0), .int .i64 ((rd_T35 t136 x15_1).f1)] 35 (0, 0)) (by (with_reducible repeat (first | refine blk_drewN ?_ _ | refine blk_drew ?_ | refine blk_alloc ?_ _)); exact BK140.out)) : gb142 ≠ gb140)); clear HO_3; clear HO_13; clear BK140; clear HB; have HO_3 := n0_; have HO_13 := n1_; have BK140 := n2_; have HB := n3_; have BK142 := n4_; have GW142 := n5_; have GE142 := n6_; have NB140_142 := n7_; have NB142_140 := n8_; clear n0_ n1_ n2_ n3_ n4_ n5_ n6_ n7_ n8_; clear hb hbox hg; have hnb16 := NB142_140.out; have hnc16 := NB140_142.out; have hcz17_0 : w15.cell? ⟨gb142, 0, none⟩ = some (.int .i64 0) := (blk_cell BK142.out 0).trans rfl; have hcz17_1 : w15.cell? ⟨gb142, 1, none⟩ = some (.int .i64 0) := (blk_cell BK142.out 1).trans rfl; have hcz17_2 : w15.cell? ⟨gb142, 2, none⟩ = some (.int .i64 0) := (blk_cell BK142.out 2).trans rfl; have hfz17_0 := blk_frozen BK142.out 0; have hfz17_1 := blk_frozen BK142.out 1; have hfz17_2 := blk_frozen BK142.out 2; have hcz18_0 : w15.cell? ⟨gb140, 0, none⟩ = some (.int .i64 ((rd_T35 t136 x15_1).f0)) := (blk_cell BK140.out 0).trans rfl; have hcz18_1 : w15.cell? ⟨gb140, 1, none⟩ = some (.int .i64 ((rd_T35 t136 x15_1).f1)) := (blk_cell BK140.out 1).trans rfl; have hfz18_0 := blk_frozen BK140.out 0; have hfz18_1 := blk_frozen BK140.out 1) | ((with_reducible refine gate_dst (N := 24) rfl ?_); refine Kd.R_lit k35 _ 35 ?hg (N := 24) ?hd (xs := ([(⟨((rd_T35 t136 x15_1).f0), ((rd_T35 t136 x15_1).f1)⟩ : S35)] : List (S35))) (inner := [.int .i64 ((rd_T35 t136 x15_1).f0), .int .i64 ((rd_T35 t136 x15_1).f1)]) (ok := fun _ => True) (okp := fun _ => True) ?hr ?hp (fun _ hk => hk) trivial (Below.refl _ _) (Nat.le_refl _) (by simp) ?_; (case hd => rfl); (case hg => rfl); (case hr => first | (go_simp; done) | (go_simp; rfl)); (case hp => exact (Reps.c2 (show Kd.M k35 _ _ _ (⟨((rd_T35 t136 x15_1).f0), ((rd_T35 t136 x15_1).f1)⟩ : S35) [.int .i64 ((rd_T35 t136 x15_1).f0), .int .i64 ((rd_T35 t136 x15_1).f1)] from (k35_mkM _ _ _ (⟨((rd_T35 t136 x15_1).f0), ((rd_T35 t136 x15_1).f1)⟩ : S35) )) (Reps.none _ _))); intro v144 w19 ho20 hb hg_ hnew_; clear hg_ hnew_; (first | rw [← Ny143.out] at ho20 | (simp only [Int.reduceToNat] at ho20; rw [← Ny143.out] at ho20)); have n0_ := Aside0.mk (Kd.S_elder' (by (with_reducible repeat (first | apply Kd.S_alloc | apply Kd.S_drewN | apply Kd.S_drew)); exact (Kd.S_mono (Kd.S_far (p := ⟨gb142, 2, none⟩) (Kd.S_far (p := ⟨gb142, 1, none⟩) (Kd.S_far (p := ⟨gb142, 0, none⟩) (Kd.S_types HO_3.out BK142.out (by decide)) (fun _ hk => hk.2) (.int .i64 (Own.kLo x20_2))) (fun _ hk => hk.2) (.int .i64 (Own.kHi x20_2))) (fun _ hk => hk.2) (.int .i64 (Own.kMore x20_2))) (fun _ h_ => h_.1))) (Kd.R_base ho20) hb); have n1_ := Aside0.mk (Kd.R_elder' (by (with_reducible repeat (first | apply Kd.R_alloc | apply Kd.R_drewN | apply Kd.R_drew)); exact (Kd.R_mono (Kd.R_far (p := ⟨gb142, 2, none⟩) (Kd.R_far (p := ⟨gb142, 1, none⟩) (Kd.R_far (p := ⟨gb142, 0, none⟩) (Kd.R_types HO_13.out BK142.out (by decide)) (fun _ hk => hk.2) (.int .i64 (Own.kLo x20_2))) (fun _ hk => hk.2) (.int .i64 (Own.kHi x20_2))) (fun _ hk => hk.2) (.int .i64 (Own.kMore x20_2))) (fun _ h_ => h_.1))) (Kd.R_base ho20) hb); have n2_ := Aside0.mk (Kd.R_lower (Kd.R_newB (Kd.R_new' ho20 (Kd.R_lt (by (with_reducible repeat (first | apply Kd.R_alloc | apply Kd.R_drewN | apply Kd.R_drew)); exact (Kd.R_mono (Kd.R_far (p := ⟨gb142, 2, none⟩) (Kd.R_far (p := ⟨gb142, 1, none⟩) (Kd.R_far (p := ⟨gb142, 0, none⟩) (Kd.R_types HO_13.out BK142.out (by decide)) (fun _ hk => hk.2) (.int .i64 (Own.kLo x20_2))) (fun _ hk => hk.2) (.int .i64 (Own.kHi x20_2))) (fun _ hk => hk.2) (.int .i64 (Own.kMore x20_2))) (fun _ h_ => h_.1))))) (g := gb140) (o := .cells #[.int .i64 ((rd_T35 t136 x15_1).f0), .int .i64 ((rd_T35 t136 x15_1).f1)] 35 (0, 0)) (by (with_reducible repeat (first | refine blk_drewN ?_ _ | refine blk_drew ?_ | refine blk_alloc ?_ _)); refine blk_far ?_ NB140_142.out _; (with_reducible repeat (first | refine blk_drewN ?_ _ | refine blk_drew ?_ | refine blk_alloc ?_ _)); refine blk_far ?_ NB140_142.out _; (with_reducible repeat (first | refine blk_drewN ?_ _ | refine blk_drew ?_ | refine blk_alloc ?_ _)); refine blk_far ?_ NB140_142.out _; (with_reducible repeat (first | refine blk_drewN ?_ _ | refine blk_drew ?_ | refine blk_alloc ?_ _)); exact BK140.out)) (below_size (by repeat (first | (with_reducible first | exact HB.out | apply below_alloc | apply pw_below_drewN | apply below_drew1 | refine below_set ?_ GE140.out | refine below_set ?_ GE142.out) | exact HB.out)))); have n3_ := Aside0.mk (blk_below (g := gb140) (o := .cells #[.int .i64 ((rd_T35 t136 x15_1).f0), .int .i64 ((rd_T35 t136 x15_1).f1)] 35 (0, 0)) (by (with_reducible repeat (first | refine blk_drewN ?_ _ | refine blk_drew ?_ | refine blk_alloc ?_ _)); refine blk_far ?_ NB140_142.out _; (with_reducible repeat (first | refine blk_drewN ?_ _ | refine blk_drew ?_ | refine blk_alloc ?_ _)); refine blk_far ?_ NB140_142.out _; (with_reducible repeat (first | refine blk_drewN ?_ _ | refine blk_drew ?_ | refine blk_alloc ?_ _)); refine blk_far ?_ NB140_142.out _; (with_reducible repeat (first | refine blk_drewN ?_ _ | refine blk_drew ?_ | refine blk_alloc ?_ _)); exact BK140.out) hb); have n4_ := Aside0.mk (blk_below (g := gb142) (o := .cells #[.int .i64 (Own.kLo x20_2), .int .i64 (Own.kHi x20_2), .int .i64 (Own.kMore x20_2)] 62 (0, 0)) (by (with_reducible repeat (first | refine blk_drewN ?_ _ | refine blk_drew ?_ | refine blk_alloc ?_ _)); refine blk_put (cs := #[.int .i64 (Own.kLo x20_2), .int .i64 (Own.kHi x20_2), .int .i64 0]) ?_ 2 _ rfl; (with_reducible repeat (first | refine blk_drewN ?_ _ | refine blk_drew ?_ | refine blk_alloc ?_ _)); refine blk_put (cs := #[.int .i64 (Own.kLo x20_2), .int .i64 0, .int .i64 0]) ?_ 1 _ rfl; (with_reducible repeat (first | refine blk_drewN ?_ _ | refine blk_drew ?_ | refine blk_alloc ?_ _)); refine blk_put (cs := #[.int .i64 0, .int .i64 0, .int .i64 0]) ?_ 0 _ rfl; (with_reducible repeat (first | refine blk_drewN ?_ _ | refine blk_drew ?_ | refine blk_alloc ?_ _)); exact BK142.out) hb); have n5_ := Aside0.mk (below_step (by repeat (first | (with_reducible first | exact HB.out | apply below_alloc | apply pw_below_drewN | apply below_drew1 | refine below_set ?_ GE140.out | refine below_set ?_ GE142.out) | exact HB.out)) hb); clear HO_3; clear HO_13; clear BK140; clear BK142; clear HB; have HO_3 := n0_; have HO_13 := n1_; have HO145 := n2_; have BK140 := n3_; have BK142 := n4_; have HB := n5_; clear n0_ n1_ n2_ n3_ n4_ n5_; clear hb ho20; have hcz21_0 : w19.cell? ⟨gb142, 0, none⟩ = some (.int .i64 (Own.kLo x20_2)) := (blk_cell BK142.out 0).trans rfl; have hcz21_1 : w19.cell? ⟨gb142, 1, none⟩ = some (.int .i64 (Own.kHi x20_2)) := (blk_cell BK142.out 1).trans rfl; have hcz21_2 : w19.cell? ⟨gb142, 2, none⟩ = some (.int .i64 (Own.kMore x20_2)) := (blk_cell BK142.out 2).trans rfl; have hfz21_0 := blk_frozen BK142.out 0; have hfz21_1 := blk_frozen BK142.out 1; have hfz21_2 := blk_frozen BK142.out 2) | ((with_reducible refine gate_dst (N := 27) rfl ?_); refine Kd.R_lit k35 _ 35 ?hg (N := 27) ?hd (xs := ([(⟨Own.kLo x20_2, Own.kHi x20_2⟩ : S35)] : List (S35))) (inner := [.int .i64 (Own.kLo x20_2), .int .i64 (Own.kHi x20_2)]) (ok := fun _ => True) (okp := fun _ => True) ?hr ?hp (fun _ hk => hk) trivial (Below.refl _ _) (Nat.le_refl _) (by simp) ?_; (case hd => rfl); (case hg => rfl); (case hr => first | (go_simp; done) | (go_simp; rfl)); (case hp => exact (Reps.c2 (show Kd.M k35 _ _ _ (⟨Own.kLo x20_2, Own.kHi x20_2⟩ : S35) [.int .i64 (Own.kLo x20_2), .int .i64 (Own.kHi x20_2)] from (k35_mkM _ _ _ (⟨Own.kLo x20_2, Own.kHi x20_2⟩ : S35) )) (Reps.none _ _))); intro v147 w22 ho23 hb hg_ hnew_; clear hg_ hnew_; (first | rw [← Ny146.out] at ho23 | (simp only [Int.reduceToNat] at ho23; rw [← Ny146.out] at ho23)); have n0_ := Aside0.mk (Kd.S_elder' (by (with_reducible repeat (first | apply Kd.S_alloc | apply Kd.S_drewN | apply Kd.S_drew)); exact HO_3.out) (Kd.R_base ho23) hb); have n1_ := Aside0.mk (Kd.R_elder' (by (with_reducible repeat (first | apply Kd.R_alloc | apply Kd.R_drewN | apply Kd.R_drew)); exact HO_13.out) (Kd.R_base ho23) hb); have n2_ := Aside0.mk (Kd.R_elder' (by (with_reducible repeat (first | apply Kd.R_alloc | apply Kd.R_drewN | apply Kd.R_drew)); exact HO145.out) (Kd.R_base ho23) hb); have n3_ := Aside0.mk (Kd.R_lower (Kd.R_newB (Kd.R_new' (Kd.R_new' ho23 (Kd.R_lt (by (with_reducible repeat (first | apply Kd.R_alloc | apply Kd.R_drewN | apply Kd.R_drew)); exact HO_13.out))) (Kd.R_lt (by (with_reducible repeat (first | apply Kd.R_alloc | apply Kd.R_drewN | apply Kd.R_drew)); exact HO145.out))) (g := gb140) (o := .cells #[.int .i64 ((rd_T35 t136 x15_1).f0), .int .i64 ((rd_T35 t136 x15_1).f1)] 35 (0, 0)) (by (with_reducible repeat (first | refine blk_drewN ?_ _ | refine blk_drew ?_ | refine blk_alloc ?_ _)); exact BK140.out)) (below_size (by repeat (first | (with_reducible first | exact HB.out | apply below_alloc | apply pw_below_drewN | apply below_drew1 | refine below_set ?_ GE140.out | refine below_set ?_ GE142.out) | exact HB.out)))); have n4_ := Aside0.mk (blk_below (g := gb140) (o := .cells #[.int .i64 ((rd_T35 t136 x15_1).f0), .int .i64 ((rd_T35 t136 x15_1).f1)] 35 (0, 0)) (by (with_reducible repeat (first | refine blk_drewN ?_ _ | refine blk_drew ?_ | refine blk_alloc ?_ _)); exact BK140.out) hb); have n5_ := Aside0.mk (blk_below (g := gb142) (o := .cells #[.int .i64 (Own.kLo x20_2), .int .i64 (Own.kHi x20_2), .int .i64 (Own.kMore x20_2)] 62 (0, 0)) (by (with_reducible repeat (first | refine blk_drewN ?_ _ | refine blk_drew ?_ | refine blk_alloc ?_ _)); exact BK142.out) hb); have n6_ := Aside0.mk (below_step (by repeat (first | (with_reducible first | exact HB.out | apply below_alloc | apply pw_below_drewN | apply below_drew1 | refine below_set ?_ GE140.out | refine below_set ?_ GE142.out) | exact HB.out)) hb); clear HO_3; clear HO_13; clear HO145; clear BK140; clear BK142; clear HB; have HO_3 := n0_; have HO_13 := n1_; have HO145 := n2_; have HO148 := n3_; have BK140 := n4_; have BK142 := n5_; have HB := n6_; clear n0_ n1_ n2_ n3_ n4_ n5_ n6_; clear hb ho23; obtain ⟨Ao24, co24, eo24⟩ := Kd.R_slice HO145.out; subst eo24; obtain ⟨Ao25, co25, eo25⟩ := Kd.R_slice HO148.out; subst eo25) | ((with_reducible refine gate_callee (f := 32) rfl ?_); refine goesL_ (some 28) rfl rfl Try.func32 (by kernel_rfl) rfl #[.slice Ao24 y143.length co24, .slice Ao25 y146.length co25] rfl (by (try simp only [List.map_toArray, List.map_cons, List.map_nil]); first | done | rfl | (simp only [List.length_drop, List.length_take]; rfl)) ?_; (with_reducible refine (ranges_Both.calls _ _ y143 _ _ y146 t149 _ ?side1 ?side2 ?side3 ?side4 A14.out).mono ?_); (case side1 => repeat (first | exact (Kd.R_reads' HO145.out).2.2 | (with_reducible refine Kd.C_alloc ?_ _) | (with_reducible refine Kd.C_drewN ?_ _) | (with_reducible refine Kd.C_drew ?_))); (case side2 => exact (Kd.R_reads' HO145.out).2.1); (case side3 => repeat (first | exact (Kd.R_reads' HO148.out).2.2 | (with_reducible refine Kd.C_alloc ?_ _) | (with_reducible refine Kd.C_drewN ?_ _) | (with_reducible refine Kd.C_drew ?_))); (case side4 => exact (Kd.R_reads' HO148.out).2.1); rintro e w26 ⟨v150, rfl, ho0, hb⟩; refine ⟨_, rfl, ?_⟩; have n0_ := Aside0.mk (Kd.S_elder' (by (with_reducible repeat (first | apply Kd.S_alloc | apply Kd.S_drewN | apply Kd.S_drew)); exact HO_3.out) (Kd.R_base ho0) hb); have n1_ := Aside0.mk (Kd.R_elder' (by (with_reducible repeat (first | apply Kd.R_alloc | apply Kd.R_drewN | apply Kd.R_drew)); exact HO_13.out) (Kd.R_base ho0) hb); have n2_ := Aside0.mk (Kd.R_elder' (by (with_reducible repeat (first | apply Kd.R_alloc | apply Kd.R_drewN | apply Kd.R_drew)); exact HO145.out) (Kd.R_base ho0) hb); have n3_ := Aside0.mk (Kd.R_elder' (by (with_reducible repeat (first | apply Kd.R_alloc | apply Kd.R_drewN | apply Kd.R_drew)); exact HO148.out) (Kd.R_base ho0) hb); have n4_ := Aside0.mk (Kd.R_lower (Kd.R_newB (Kd.R_new' (Kd.R_new' (Kd.R_new' ho0 (Kd.R_lt (by (with_reducible repeat (first | apply Kd.R_alloc | apply Kd.R_drewN | apply Kd.R_drew)); exact HO_13.out))) (Kd.R_lt (by (with_reducible repeat (first | apply Kd.R_alloc | apply Kd.R_drewN | apply Kd.R_drew)); exact HO145.out))) (Kd.R_lt (by (with_reducible repeat (first | apply Kd.R_alloc | apply Kd.R_drewN | apply Kd.R_drew)); exact HO148.out))) (g := gb140) (o := .cells #[.int .i64 ((rd_T35 t136 x15_1).f0), .int .i64 ((rd_T35 t136 x15_1).f1)] 35 (0, 0)) (by (with_reducible repeat (first | refine blk_drewN ?_ _ | refine blk_drew ?_ | refine blk_alloc ?_ _)); exact BK140.out)) (below_size (by repeat (first | (with_reducible first | exact HB.out | apply below_alloc | apply pw_below_drewN | apply below_drew1 | refine below_set ?_ GE140.out | refine below_set ?_ GE142.out) | exact HB.out)))); have n5_ := Aside0.mk (blk_below (g := gb140) (o := .cells #[.int .i64 ((rd_T35 t136 x15_1).f0), .int .i64 ((rd_T35 t136 x15_1).f1)] 35 (0, 0)) (by (with_reducible repeat (first | refine blk_drewN ?_ _ | refine blk_drew ?_ | refine blk_alloc ?_ _)); exact BK140.out) hb); have n6_ := Aside0.mk (blk_below (g := gb142) (o := .cells #[.int .i64 (Own.kLo x20_2), .int .i64 (Own.kHi x20_2), .int .i64 (Own.kMore x20_2)] 62 (0, 0)) (by (with_reducible repeat (first | refine blk_drewN ?_ _ | refine blk_drew ?_ | refine blk_alloc ?_ _)); exact BK142.out) hb); have n7_ := Aside0.mk (below_step (by repeat (first | (with_reducible first | exact HB.out | apply below_alloc | apply pw_below_drewN | apply below_drew1 | refine below_set ?_ GE140.out | refine below_set ?_ GE142.out) | exact HB.out)) hb); clear HO_3; clear HO_13; clear HO145; clear HO148; clear BK140; clear BK142; clear HB; have HO_3 := n0_; have HO_13 := n1_; have HO145 := n2_; have HO148 := n3_; have HO151 := n4_; have BK140 := n5_; have BK142 := n6_; have HB := n7_; clear n0_ n1_ n2_ n3_ n4_ n5_ n6_ n7_; (try clear hb); (try clear hb2); (try clear hk); (try clear hi); (try clear ho0); have hcz27_0 : w26.cell? ⟨gb142, 0, none⟩ = some (.int .i64 (Own.kLo x20_2)) := (blk_cell BK142.out 0).trans rfl; have hcz27_1 : w26.cell? ⟨gb142, 1, none⟩ = some (.int .i64 (Own.kHi x20_2)) := (blk_cell BK142.out 1).trans rfl; have hcz27_2 : w26.cell? ⟨gb142, 2, none⟩ = some (.int .i64 (Own.kMore x20_2)) := (blk_cell BK142.out 2).trans rfl; have hfz27_0 := blk_frozen BK142.out 0; have hfz27_1 := blk_frozen BK142.out 1; have hfz27_2 := blk_frozen BK142.out 2))
                    go_loopg [8, 9] k2 (fun kq v8 v9 w' => ∃ (x8_3 : List (S35)) (x9_3 : Int), v9 = .int .i64 x9_3 ∧ Aside0 (seqs_Of.l2 kq x3_2 x8_3 x9_3 t136 (t136.length : Int) x15_1 x20_2 ((rd_T35 t136 x15_1).f0) ((rd_T35 t136 x15_1).f1) = some r) ∧ Aside0 (kq ≤ k2) ∧ Aside0 (Kd.S (Kd.slice 35 k35) 22 w' w.heap.size (fun k_ => some k_ ≠ (v8 : Value).ownBlock ∧ some k_ ≠ ((.slice (some ad139) t136.length co4) : Value).ownBlock ∧ k_ ≠ gb140) u3 x3_2) ∧ Aside0 (Kd.R k35 35 w' w.heap.size (fun k_ => some k_ ≠ ((.slice (some ad139) t136.length co4) : Value).ownBlock ∧ k_ ≠ gb140) v8 x8_3) ∧ Aside0 (Kd.R k35 35 w' w.heap.size (fun k_ => some k_ ≠ (v8 : Value).ownBlock ∧ k_ ≠ gb140) (.slice (some ad139) t136.length co4) t136) ∧ Aside0 (w'.heap[gb140]? = some (.cells #[.int .i64 ((rd_T35 t136 x15_1).f0), .int .i64 ((rd_T35 t136 x15_1).f1)] 35 (0, 0))) ∧ Aside0 (w'.heap[gb142]? = some (.cells #[.int .i64 (Own.kLo x20_2), .int .i64 (Own.kHi x20_2), .int .i64 (Own.kMore x20_2)] 62 (0, 0))) ∧ Aside0 (Below w.heap.size w w'))
                    case atStart => exact ⟨(t149), (Own.kMore x20_2), (by first | rfl | (simp; done) | (simp [*]; done) | (simp [*, bne]; done)), H', ⟨Nat.le_refl _⟩, ⟨by (with_reducible repeat (first | apply Kd.S_alloc | apply Kd.S_drewN | apply Kd.S_drew)); exact Kd.S_mono HO_3.out (fun _ hk => ⟨hk.2, ⟨hk.1.1.1.1, hk.1.1.1.2⟩⟩)⟩, ⟨by (with_reducible repeat (first | apply Kd.R_alloc | apply Kd.R_drewN | apply Kd.R_drew)); exact Kd.R_mono HO151.out (fun _ hk => ⟨hk.1.1.1.2, hk.2⟩)⟩, ⟨by (with_reducible repeat (first | apply Kd.R_alloc | apply Kd.R_drewN | apply Kd.R_drew)); exact Kd.R_mono HO_13.out (fun _ hk => ⟨hk.2, hk.1.1.1⟩)⟩, ⟨by (with_reducible repeat (first | refine blk_drewN ?_ _ | refine blk_drew ?_ | refine blk_alloc ?_ _)); exact BK140.out⟩, ⟨by (with_reducible repeat (first | refine blk_drewN ?_ _ | refine blk_drew ?_ | refine blk_alloc ?_ _)); exact BK142.out⟩, ⟨by repeat (first | (with_reducible first | exact HB.out | apply below_alloc | apply pw_below_drewN | apply below_drew1 | refine below_set ?_ GE140.out | refine below_set ?_ GE142.out) | exact HB.out)⟩⟩
                    case round =>
                      clear H'
                      try clear c1
                      try clear p1
                      try clear q1
                      try clear hx1
                      try clear c2
                      try clear p2
                      try clear c3
                      try clear c5
                      try clear c5b0
                      try clear c6
                      try clear c6b0
                      try clear c7
                      try clear c7b0
                      try clear c12
                      try clear c12b0
                      try clear c13
                      try clear c13b0
                      try clear p13
                      try clear q13
                      try clear hx13
                      try clear c16
                      try clear hcz10_0
                      try clear hcz10_1
                      try clear hcz17_0
                      try clear hcz17_1
                      try clear hcz17_2
                      try clear hcz18_0
                      try clear hcz18_1
                      try clear hcz21_0
                      try clear hcz21_1
                      try clear hcz21_2
                      try clear hcz27_0
                      try clear hcz27_1
                      try clear hcz27_2
                      try clear hfz10_0
                      try clear hfz10_1
                      try clear hfz17_0
                      try clear hfz17_1
                      try clear hfz17_2
                      try clear hfz18_0
                      try clear hfz18_1
                      try clear hfz21_0
                      try clear hfz21_1
                      try clear hfz21_2
                      try clear hfz27_0
                      try clear hfz27_1
                      try clear hfz27_2
                      try clear hx139_0
                      try clear hx139_1
                      try clear p1
                      try clear p139
                      try clear p2
                      try clear q1
                      try clear q139
                      obtain ⟨x8_3, x9_3, rfl, HA, HK3, HO_3, HO_8, HO_13, BK140, BK142, HB⟩ := hrel
                      cases gk with
                      | zero => exact absurd HA.out (by simp [seqs_Of.l2])
                      | succ k3 =>
                        have H := HA.out
                        clear HA
                        simp only [seqs_Of.l2] at H
                        by_cases c28 : x9_3 > 0
                        · rw [if_pos c28] at H
                          have c28b0 : decide (0 < x9_3) = true := decide_eq_true c28
                          clear c28
                          replace H := Option.bind_eq_some_iff.mp H
                          obtain ⟨t152, A290, H⟩ := H
                          replace H : (seqs_Of.l2 k3 x3_2 t152 (wrap64 (x9_3 - 1)) t136 (t136.length : Int) x15_1 x20_2 ((rd_T35 t136 x15_1).f0) ((rd_T35 t136 x15_1).f1)) = some r := H
                          have A29 := Aside0.mk A290
                          clear A290
                          have H' := Aside0.mk H
                          clear H
                          obtain ⟨Ao30, co30, eo30⟩ := Kd.R_slice HO_8.out
                          subst eo30
                          go_wp2_with (first | ((with_reducible refine gate_callee (f := 38) rfl ?_); refine goesL_ (some 38) rfl rfl Try.func38 (by kernel_rfl) rfl #[.int .i64 (wrap64 (x9_3 * 6)), .slice Ao30 x8_3.length co30] rfl (by (try simp only [List.map_toArray, List.map_cons, List.map_nil]); first | done | rfl | (simp only [List.length_drop, List.length_take]; rfl)) ?_; (with_reducible refine (seqs_split.calls k3 (wrap64 (x9_3 * 6)) _ _ x8_3 t152 _ ?side1 ?side2 A29.out).mono ?_); (case side1 => repeat (first | exact (Kd.R_reads' HO_8.out).2.2 | (with_reducible refine Kd.C_alloc ?_ _) | (with_reducible refine Kd.C_drewN ?_ _) | (with_reducible refine Kd.C_drew ?_))); (case side2 => exact (Kd.R_reads' HO_8.out).2.1); rintro e w31 ⟨v153, rfl, ho0, hb⟩; refine ⟨_, rfl, ?_⟩; have n0_ := Aside0.mk (Kd.S_elder' (by (with_reducible repeat (first | apply Kd.S_alloc | apply Kd.S_drewN | apply Kd.S_drew)); exact HO_3.out) (Kd.R_base ho0) hb); have n1_ := Aside0.mk (Kd.R_elder' (by (with_reducible repeat (first | apply Kd.R_alloc | apply Kd.R_drewN | apply Kd.R_drew)); exact HO_8.out) (Kd.R_base ho0) hb); have n2_ := Aside0.mk (Kd.R_elder' (by (with_reducible repeat (first | apply Kd.R_alloc | apply Kd.R_drewN | apply Kd.R_drew)); exact HO_13.out) (Kd.R_base ho0) hb); have n3_ := Aside0.mk (Kd.R_lower (Kd.R_newB (Kd.R_new' (Kd.R_new' ho0 (Kd.R_lt (by (with_reducible repeat (first | apply Kd.R_alloc | apply Kd.R_drewN | apply Kd.R_drew)); exact HO_8.out))) (Kd.R_lt (by (with_reducible repeat (first | apply Kd.R_alloc | apply Kd.R_drewN | apply Kd.R_drew)); exact HO_13.out))) (g := gb140) (o := .cells #[.int .i64 ((rd_T35 t136 x15_1).f0), .int .i64 ((rd_T35 t136 x15_1).f1)] 35 (0, 0)) (by (with_reducible repeat (first | refine blk_drewN ?_ _ | refine blk_drew ?_ | refine blk_alloc ?_ _)); exact BK140.out)) (below_size (by repeat (first | (with_reducible first | exact HB.out | apply below_alloc | apply pw_below_drewN | apply below_drew1 | refine below_set ?_ GE140.out | refine below_set ?_ GE142.out) | exact HB.out)))); have n4_ := Aside0.mk (blk_below (g := gb140) (o := .cells #[.int .i64 ((rd_T35 t136 x15_1).f0), .int .i64 ((rd_T35 t136 x15_1).f1)] 35 (0, 0)) (by (with_reducible repeat (first | refine blk_drewN ?_ _ | refine blk_drew ?_ | refine blk_alloc ?_ _)); exact BK140.out) hb); have n5_ := Aside0.mk (blk_below (g := gb142) (o := .cells #[.int .i64 (Own.kLo x20_2), .int .i64 (Own.kHi x20_2), .int .i64 (Own.kMore x20_2)] 62 (0, 0)) (by (with_reducible repeat (first | refine blk_drewN ?_ _ | refine blk_drew ?_ | refine blk_alloc ?_ _)); exact BK142.out) hb); have n6_ := Aside0.mk (below_step (by repeat (first | (with_reducible first | exact HB.out | apply below_alloc | apply pw_below_drewN | apply below_drew1 | refine below_set ?_ GE140.out | refine below_set ?_ GE142.out) | exact HB.out)) hb); clear HO_3; clear HO_8; clear HO_13; clear BK140; clear BK142; clear HB; have HO_3 := n0_; have HO_8 := n1_; have HO_13 := n2_; have HO154 := n3_; have BK140 := n4_; have BK142 := n5_; have HB := n6_; clear n0_ n1_ n2_ n3_ n4_ n5_ n6_; (try clear hb); (try clear hb2); (try clear hk); (try clear hi); (try clear ho0)))
                          go_roundg k3
                          case measure => have := HK1.out; have := HK2.out; have := HK3.out; omega
                          case rel => exact ⟨(t152), (wrap64 (x9_3 - 1)), (by first | rfl | (simp; done) | (simp [*]; done) | (simp [*, bne]; done)), H', ⟨by have := HK1.out; have := HK2.out; have := HK3.out; omega⟩, ⟨by (with_reducible repeat (first | apply Kd.S_alloc | apply Kd.S_drewN | apply Kd.S_drew)); exact Kd.S_mono HO_3.out (fun _ hk => ⟨hk.2, ⟨hk.1.2.1, hk.1.2.2⟩⟩)⟩, ⟨by (with_reducible repeat (first | apply Kd.R_alloc | apply Kd.R_drewN | apply Kd.R_drew)); exact Kd.R_mono HO154.out (fun _ hk => ⟨hk.1.2, hk.2⟩)⟩, ⟨by (with_reducible repeat (first | apply Kd.R_alloc | apply Kd.R_drewN | apply Kd.R_drew)); exact Kd.R_mono HO_13.out (fun _ hk => ⟨hk.2, hk.1.2⟩)⟩, ⟨by (with_reducible repeat (first | refine blk_drewN ?_ _ | refine blk_drew ?_ | refine blk_alloc ?_ _)); exact BK140.out⟩, ⟨by (with_reducible repeat (first | refine blk_drewN ?_ _ | refine blk_drew ?_ | refine blk_alloc ?_ _)); exact BK142.out⟩, ⟨by repeat (first | (with_reducible first | exact HB.out | apply below_alloc | apply pw_below_drewN | apply below_drew1 | refine below_set ?_ GE140.out | refine below_set ?_ GE142.out) | exact HB.out)⟩⟩
                        · rw [if_neg c28] at H
                          have c28b0 : decide (0 < x9_3) = false := decide_eq_false c28
                          clear c28
                          have H' := Aside0.mk H
                          clear H
                          obtain ⟨Ao32, co32, eo32⟩ := Kd.R_slice HO_8.out
                          subst eo32
                          go_wp2
                          go_loopg [3, 41] k3 (fun kq v3 v41 w' => ∃ (x3_4 : List (List (S35))) (x41_4 : Int), v41 = .int .i64 x41_4 ∧ Aside0 (seqs_Of.l3 kq x3_4 t136 (t136.length : Int) x15_1 x20_2 x8_3 (x8_3.length : Int) x41_4 ((rd_T35 t136 x15_1).f0) ((rd_T35 t136 x15_1).f1) = some r) ∧ Aside0 (kq ≤ k3) ∧ Aside0 (Kd.S (Kd.slice 35 k35) 22 w' w.heap.size (fun k_ => some k_ ≠ ((.slice (some ad139) t136.length co4) : Value).ownBlock ∧ some k_ ≠ ((.slice Ao32 x8_3.length co32) : Value).ownBlock ∧ k_ ≠ gb140) v3 x3_4) ∧ Aside0 (Kd.R k35 35 w' w.heap.size (fun k_ => some k_ ≠ ((.slice Ao32 x8_3.length co32) : Value).ownBlock ∧ k_ ≠ gb140) (.slice (some ad139) t136.length co4) t136) ∧ Aside0 (Kd.R k35 35 w' w.heap.size (fun k_ => some k_ ≠ ((.slice (some ad139) t136.length co4) : Value).ownBlock ∧ k_ ≠ gb140) (.slice Ao32 x8_3.length co32) x8_3) ∧ Aside0 (w'.heap[gb140]? = some (.cells #[.int .i64 ((rd_T35 t136 x15_1).f0), .int .i64 ((rd_T35 t136 x15_1).f1)] 35 (0, 0))) ∧ Aside0 (w'.heap[gb142]? = some (.cells #[.int .i64 (Own.kLo x20_2), .int .i64 (Own.kHi x20_2), .int .i64 (Own.kMore x20_2)] 62 (0, 0))) ∧ Aside0 (Below w.heap.size w w'))
                          case atStart => exact ⟨(x3_2), (0), (by first | rfl | (simp; done) | (simp [*]; done) | (simp [*, bne]; done)), H', ⟨Nat.le_refl _⟩, ⟨by (with_reducible repeat (first | apply Kd.S_alloc | apply Kd.S_drewN | apply Kd.S_drew)); exact Kd.S_mono HO_3.out (fun _ hk => ⟨hk.2.1, ⟨hk.1, hk.2.2⟩⟩)⟩, ⟨by (with_reducible repeat (first | apply Kd.R_alloc | apply Kd.R_drewN | apply Kd.R_drew)); exact HO_13.out⟩, ⟨by (with_reducible repeat (first | apply Kd.R_alloc | apply Kd.R_drewN | apply Kd.R_drew)); exact HO_8.out⟩, ⟨by (with_reducible repeat (first | refine blk_drewN ?_ _ | refine blk_drew ?_ | refine blk_alloc ?_ _)); exact BK140.out⟩, ⟨by (with_reducible repeat (first | refine blk_drewN ?_ _ | refine blk_drew ?_ | refine blk_alloc ?_ _)); exact BK142.out⟩, ⟨by repeat (first | (with_reducible first | exact HB.out | apply below_alloc | apply pw_below_drewN | apply below_drew1 | refine below_set ?_ GE140.out | refine below_set ?_ GE142.out) | exact HB.out)⟩⟩
                          case round =>
                            clear H'
                            try clear c1
                            try clear p1
                            try clear q1
                            try clear hx1
                            try clear c2
                            try clear p2
                            try clear c3
                            try clear c5
                            try clear c5b0
                            try clear c6
                            try clear c6b0
                            try clear p6
                            try clear c7
                            try clear c7b0
                            try clear c12
                            try clear c12b0
                            try clear c13
                            try clear c13b0
                            try clear p13
                            try clear q13
                            try clear hx13
                            try clear c16
                            try clear c28
                            try clear c28b0
                            try clear c32
                            try clear hcz10_0
                            try clear hcz10_1
                            try clear hcz17_0
                            try clear hcz17_1
                            try clear hcz17_2
                            try clear hcz18_0
                            try clear hcz18_1
                            try clear hcz21_0
                            try clear hcz21_1
                            try clear hcz21_2
                            try clear hcz27_0
                            try clear hcz27_1
                            try clear hcz27_2
                            try clear hfz10_0
                            try clear hfz10_1
                            try clear hfz17_0
                            try clear hfz17_1
                            try clear hfz17_2
                            try clear hfz18_0
                            try clear hfz18_1
                            try clear hfz21_0
                            try clear hfz21_1
                            try clear hfz21_2
                            try clear hfz27_0
                            try clear hfz27_1
                            try clear hfz27_2
                            try clear hx139_0
                            try clear hx139_1
                            try clear p1
                            try clear p13
                            try clear p139
                            try clear p2
                            try clear q1
                            try clear q13
                            try clear q139
                            obtain ⟨x3_4, x41_4, rfl, HA, HK4, HO_3, HO_13, HO_39, BK140, BK142, HB⟩ := hrel
                            cases gk with
                            | zero => exact absurd HA.out (by simp [seqs_Of.l3])
                            | succ k4 =>
                              have H := HA.out
                              clear HA
                              simp only [seqs_Of.l3] at H
                              by_cases c33 : x41_4 < (x8_3.length : Int)
                              · rw [if_pos c33] at H
                                have c33b0 : decide (x41_4 < (x8_3.length : Int)) = true := decide_eq_true c33
                                clear c33
                                by_cases c34 : 0 ≤ x41_4
                                · rw [if_pos c34] at H
                                  have c34b0 : decide (0 ≤ x41_4) = true := decide_eq_true c34
                                  clear c34
                                  by_cases c35 : x41_4 < (x8_3.length : Int)
                                  · rw [if_pos c35] at H
                                    have c35b0 : decide (x41_4 < (x8_3.length : Int)) = true := decide_eq_true c35
                                    clear c35
                                    replace H := Option.bind_eq_some_iff.mp H
                                    obtain ⟨t157, A360, H⟩ := H
                                    replace H : (if x3_4.length < 5864062014805 then (seqs_Of.l3 k4 (x3_4 ++ [t157]) t136 (t136.length : Int) x15_1 x20_2 x8_3 (x8_3.length : Int) (wrap64 (x41_4 + 1)) ((rd_T35 t136 x15_1).f0) ((rd_T35 t136 x15_1).f1)) else (none)) = some r := H
                                    have A36 := Aside0.mk A360
                                    clear A360
                                    by_cases c37 : x3_4.length < 5864062014805
                                    · rw [if_pos c37] at H
                                      have LMc37 := Aside0.mk c37
                                      clear c37
                                      obtain ⟨y160, hy160⟩ : ∃ y_ : List (List (S35)), y_ = (x3_4 ++ [t157]) := ⟨_, rfl⟩
                                      replace H : (seqs_Of.l3 k4 y160 t136 (t136.length : Int) x15_1 x20_2 x8_3 (x8_3.length : Int) (wrap64 (x41_4 + 1)) ((rd_T35 t136 x15_1).f0) ((rd_T35 t136 x15_1).f1)) = some r := by first | (rw [hy160]; with_reducible exact H) | (have H2_ := (Option.bind_some _ _).symm.trans H; rw [hy160]; with_reducible exact H2_) | (have H2_ := (Option.bind_some _ _).symm.trans H; with_reducible exact H2_) | with_reducible exact H | (rw [hy160]; exact H) | exact H
                                      have Ny160 := Aside0.mk hy160
                                      clear hy160
                                      have H' := Aside0.mk H
                                      clear H
                                      have p155 : 0 ≤ (x41_4 : Int) := of_decide_eq_true (by first | (with_reducible assumption) | assumption)
                                      have q155 : x41_4 < (x8_3.length : Int) := of_decide_eq_true (by first | (with_reducible assumption) | assumption)
                                      obtain ⟨ad155, e155, hx155_0, hx155_1⟩ := at_T35 (Kd.R_reads' HO_39.out).2.2 x41_4 p155 q155
                                      cases e155
                                      replace p155 := eq_true p155
                                      replace q155 := eq_true q155
                                      go_wp2_with (first | ((with_reducible refine gate_dst (N := 11) rfl ?_); refine box_event ?hg (N := 11) ?hd (cs := #[.int .i64 0, .int .i64 0]) (t := 35) ?hr ?_; (case hd => rfl); (case hg => rfl); (case hr => first | (go_simp; done) | (go_simp; rfl)); intro gb156 hg w38 hbox hb; have n0_ := Aside0.mk (Kd.S_below (Kd.S_elderB (by (with_reducible repeat (first | apply Kd.S_alloc | apply Kd.S_drewN | apply Kd.S_drew)); exact HO_3.out) gb156 (Nat.le_of_eq hg.symm)) hb); have n1_ := Aside0.mk (Kd.R_below (Kd.R_elderB (by (with_reducible repeat (first | apply Kd.R_alloc | apply Kd.R_drewN | apply Kd.R_drew)); exact HO_13.out) gb156 (Nat.le_of_eq hg.symm)) hb); have n2_ := Aside0.mk (Kd.R_below (Kd.R_elderB (by (with_reducible repeat (first | apply Kd.R_alloc | apply Kd.R_drewN | apply Kd.R_drew)); exact HO_39.out) gb156 (Nat.le_of_eq hg.symm)) hb); have n3_ := Aside0.mk (blk_below (g := gb140) (o := .cells #[.int .i64 ((rd_T35 t136 x15_1).f0), .int .i64 ((rd_T35 t136 x15_1).f1)] 35 (0, 0)) (by (with_reducible repeat (first | refine blk_drewN ?_ _ | refine blk_drew ?_ | refine blk_alloc ?_ _)); exact BK140.out) hb); have n4_ := Aside0.mk (blk_below (g := gb142) (o := .cells #[.int .i64 (Own.kLo x20_2), .int .i64 (Own.kHi x20_2), .int .i64 (Own.kMore x20_2)] 62 (0, 0)) (by (with_reducible repeat (first | refine blk_drewN ?_ _ | refine blk_drew ?_ | refine blk_alloc ?_ _)); exact BK142.out) hb); have n5_ := Aside0.mk (below_step (by repeat (first | (with_reducible first | exact HB.out | apply below_alloc | apply pw_below_drewN | apply below_drew1 | refine below_set ?_ GE140.out | refine below_set ?_ GE142.out) | exact HB.out)) hb); have n6_ := Aside0.mk (hbox); have n7_ := Aside0.mk ((by rw [hg]; exact (below_size (by repeat (first | (with_reducible first | exact HB.out | apply below_alloc | apply pw_below_drewN | apply below_drew1 | refine below_set ?_ GE140.out | refine below_set ?_ GE142.out) | exact HB.out))) : w.heap.size ≤ gb156)); have n8_ := Aside0.mk ((by rw [hg]; exact (below_size (by repeat (first | (with_reducible first | exact HB.out | apply below_alloc | apply pw_below_drewN | apply below_drew1 | refine below_set ?_ GE140.out | refine below_set ?_ GE142.out) | exact HB.out))) : w.heap.size ≤ gb156)); have n9_ := Aside0.mk ((by rw [hg]; exact Nat.ne_of_lt (blk_lt (g := gb140) (o := .cells #[.int .i64 ((rd_T35 t136 x15_1).f0), .int .i64 ((rd_T35 t136 x15_1).f1)] 35 (0, 0)) (by (with_reducible repeat (first | refine blk_drewN ?_ _ | refine blk_drew ?_ | refine blk_alloc ?_ _)); exact BK140.out)) : gb140 ≠ gb156)); have n10_ := Aside0.mk ((by rw [hg]; exact Nat.ne_of_gt (blk_lt (g := gb140) (o := .cells #[.int .i64 ((rd_T35 t136 x15_1).f0), .int .i64 ((rd_T35 t136 x15_1).f1)] 35 (0, 0)) (by (with_reducible repeat (first | refine blk_drewN ?_ _ | refine blk_drew ?_ | refine blk_alloc ?_ _)); exact BK140.out)) : gb156 ≠ gb140)); have n11_ := Aside0.mk ((by rw [hg]; exact Nat.ne_of_lt (blk_lt (g := gb142) (o := .cells #[.int .i64 (Own.kLo x20_2), .int .i64 (Own.kHi x20_2), .int .i64 (Own.kMore x20_2)] 62 (0, 0)) (by (with_reducible repeat (first | refine blk_drewN ?_ _ | refine blk_drew ?_ | refine blk_alloc ?_ _)); exact BK142.out)) : gb142 ≠ gb156)); have n12_ := Aside0.mk ((by rw [hg]; exact Nat.ne_of_gt (blk_lt (g := gb142) (o := .cells #[.int .i64 (Own.kLo x20_2), .int .i64 (Own.kHi x20_2), .int .i64 (Own.kMore x20_2)] 62 (0, 0)) (by (with_reducible repeat (first | refine blk_drewN ?_ _ | refine blk_drew ?_ | refine blk_alloc ?_ _)); exact BK142.out)) : gb156 ≠ gb142)); clear HO_3; clear HO_13; clear HO_39; clear BK140; clear BK142; clear HB; have HO_3 := n0_; have HO_13 := n1_; have HO_39 := n2_; have BK140 := n3_; have BK142 := n4_; have HB := n5_; have BK156 := n6_; have GW156 := n7_; have GE156 := n8_; have NB140_156 := n9_; have NB156_140 := n10_; have NB142_156 := n11_; have NB156_142 := n12_; clear n0_ n1_ n2_ n3_ n4_ n5_ n6_ n7_ n8_ n9_ n10_ n11_ n12_; clear hb hbox hg; have hnb39 := NB156_140.out; have hnc39 := NB140_156.out; have hnb40 := NB156_142.out; have hnc40 := NB142_156.out; have hcz41_0 : w38.cell? ⟨gb156, 0, none⟩ = some (.int .i64 0) := (blk_cell BK156.out 0).trans rfl; have hcz41_1 : w38.cell? ⟨gb156, 1, none⟩ = some (.int .i64 0) := (blk_cell BK156.out 1).trans rfl; have hfz41_0 := blk_frozen BK156.out 0; have hfz41_1 := blk_frozen BK156.out 1) | ((with_reducible refine gate_callee (f := 39) rfl ?_); refine goesL_ (some 47) rfl rfl Try.func39 (by kernel_rfl) rfl #[.agg #[.int .i64 ((rd_T35 x8_3 x41_4).f0), .int .i64 ((rd_T35 x8_3 x41_4).f1)]] rfl (by (try simp only [List.map_toArray, List.map_cons, List.map_nil]); first | done | rfl | (simp only [List.length_drop, List.length_take]; rfl)) ?_; (with_reducible refine (seqs_one.calls k4 ((rd_T35 x8_3 x41_4).f0) ((rd_T35 x8_3 x41_4).f1) t157 _ A36.out).mono ?_); rintro e w42 ⟨v158, rfl, ho0, hb⟩; refine ⟨_, rfl, ?_⟩; have n0_ := Aside0.mk (Kd.S_elder' (by (with_reducible repeat (first | apply Kd.S_alloc | apply Kd.S_drewN | apply Kd.S_drew)); exact (Kd.S_mono (Kd.S_far (p := ⟨gb156, 1, none⟩) (Kd.S_far (p := ⟨gb156, 0, none⟩) (Kd.S_mono HO_3.out (fun k_ hk => (⟨hk, hk.2⟩ : _ ∧ k_ ≠ gb156))) (fun _ hk => hk.2) (.int .i64 ((rd_T35 x8_3 x41_4).f0))) (fun _ hk => hk.2) (.int .i64 ((rd_T35 x8_3 x41_4).f1))) (fun _ h_ => h_.1))) (Kd.R_base ho0) hb); have n1_ := Aside0.mk (Kd.R_elder' (by (with_reducible repeat (first | apply Kd.R_alloc | apply Kd.R_drewN | apply Kd.R_drew)); exact (Kd.R_mono (Kd.R_far (p := ⟨gb156, 1, none⟩) (Kd.R_far (p := ⟨gb156, 0, none⟩) (Kd.R_mono HO_13.out (fun k_ hk => (⟨hk, hk.2⟩ : _ ∧ k_ ≠ gb156))) (fun _ hk => hk.2) (.int .i64 ((rd_T35 x8_3 x41_4).f0))) (fun _ hk => hk.2) (.int .i64 ((rd_T35 x8_3 x41_4).f1))) (fun _ h_ => h_.1))) (Kd.R_base ho0) hb); have n2_ := Aside0.mk (Kd.R_elder' (by (with_reducible repeat (first | apply Kd.R_alloc | apply Kd.R_drewN | apply Kd.R_drew)); exact (Kd.R_mono (Kd.R_far (p := ⟨gb156, 1, none⟩) (Kd.R_far (p := ⟨gb156, 0, none⟩) (Kd.R_mono HO_39.out (fun k_ hk => (⟨hk, hk.2⟩ : _ ∧ k_ ≠ gb156))) (fun _ hk => hk.2) (.int .i64 ((rd_T35 x8_3 x41_4).f0))) (fun _ hk => hk.2) (.int .i64 ((rd_T35 x8_3 x41_4).f1))) (fun _ h_ => h_.1))) (Kd.R_base ho0) hb); have n3_ := Aside0.mk (Kd.R_lower (Kd.R_newB (Kd.R_newB (Kd.R_new' (Kd.R_new' ho0 (Kd.R_lt (by (with_reducible repeat (first | apply Kd.R_alloc | apply Kd.R_drewN | apply Kd.R_drew)); exact (Kd.R_mono (Kd.R_far (p := ⟨gb156, 1, none⟩) (Kd.R_far (p := ⟨gb156, 0, none⟩) (Kd.R_mono HO_13.out (fun k_ hk => (⟨hk, hk.2⟩ : _ ∧ k_ ≠ gb156))) (fun _ hk => hk.2) (.int .i64 ((rd_T35 x8_3 x41_4).f0))) (fun _ hk => hk.2) (.int .i64 ((rd_T35 x8_3 x41_4).f1))) (fun _ h_ => h_.1))))) (Kd.R_lt (by (with_reducible repeat (first | apply Kd.R_alloc | apply Kd.R_drewN | apply Kd.R_drew)); exact (Kd.R_mono (Kd.R_far (p := ⟨gb156, 1, none⟩) (Kd.R_far (p := ⟨gb156, 0, none⟩) (Kd.R_mono HO_39.out (fun k_ hk => (⟨hk, hk.2⟩ : _ ∧ k_ ≠ gb156))) (fun _ hk => hk.2) (.int .i64 ((rd_T35 x8_3 x41_4).f0))) (fun _ hk => hk.2) (.int .i64 ((rd_T35 x8_3 x41_4).f1))) (fun _ h_ => h_.1))))) (g := gb140) (o := .cells #[.int .i64 ((rd_T35 t136 x15_1).f0), .int .i64 ((rd_T35 t136 x15_1).f1)] 35 (0, 0)) (by (with_reducible repeat (first | refine blk_drewN ?_ _ | refine blk_drew ?_ | refine blk_alloc ?_ _)); refine blk_far ?_ NB140_156.out _; (with_reducible repeat (first | refine blk_drewN ?_ _ | refine blk_drew ?_ | refine blk_alloc ?_ _)); refine blk_far ?_ NB140_156.out _; (with_reducible repeat (first | refine blk_drewN ?_ _ | refine blk_drew ?_ | refine blk_alloc ?_ _)); exact BK140.out)) (g := gb156) (o := .cells #[.int .i64 ((rd_T35 x8_3 x41_4).f0), .int .i64 ((rd_T35 x8_3 x41_4).f1)] 35 (0, 0)) (by (with_reducible repeat (first | refine blk_drewN ?_ _ | refine blk_drew ?_ | refine blk_alloc ?_ _)); refine blk_put (cs := #[.int .i64 ((rd_T35 x8_3 x41_4).f0), .int .i64 0]) ?_ 1 _ rfl; (with_reducible repeat (first | refine blk_drewN ?_ _ | refine blk_drew ?_ | refine blk_alloc ?_ _)); refine blk_put (cs := #[.int .i64 0, .int .i64 0]) ?_ 0 _ rfl; (with_reducible repeat (first | refine blk_drewN ?_ _ | refine blk_drew ?_ | refine blk_alloc ?_ _)); exact BK156.out)) (below_size (by repeat (first | (with_reducible first | exact HB.out | apply below_alloc | apply pw_below_drewN | apply below_drew1 | refine below_set ?_ GE140.out | refine below_set ?_ GE142.out | refine below_set ?_ GE156.out) | exact HB.out)))); have n4_ := Aside0.mk (blk_below (g := gb140) (o := .cells #[.int .i64 ((rd_T35 t136 x15_1).f0), .int .i64 ((rd_T35 t136 x15_1).f1)] 35 (0, 0)) (by (with_reducible repeat (first | refine blk_drewN ?_ _ | refine blk_drew ?_ | refine blk_alloc ?_ _)); refine blk_far ?_ NB140_156.out _; (with_reducible repeat (first | refine blk_drewN ?_ _ | refine blk_drew ?_ | refine blk_alloc ?_ _)); refine blk_far ?_ NB140_156.out _; (with_reducible repeat (first | refine blk_drewN ?_ _ | refine blk_drew ?_ | refine blk_alloc ?_ _)); exact BK140.out) hb); have n5_ := Aside0.mk (blk_below (g := gb142) (o := .cells #[.int .i64 (Own.kLo x20_2), .int .i64 (Own.kHi x20_2), .int .i64 (Own.kMore x20_2)] 62 (0, 0)) (by (with_reducible repeat (first | refine blk_drewN ?_ _ | refine blk_drew ?_ | refine blk_alloc ?_ _)); refine blk_far ?_ NB142_156.out _; (with_reducible repeat (first | refine blk_drewN ?_ _ | refine blk_drew ?_ | refine blk_alloc ?_ _)); refine blk_far ?_ NB142_156.out _; (with_reducible repeat (first | refine blk_drewN ?_ _ | refine blk_drew ?_ | refine blk_alloc ?_ _)); exact BK142.out) hb); have n6_ := Aside0.mk (blk_below (g := gb156) (o := .cells #[.int .i64 ((rd_T35 x8_3 x41_4).f0), .int .i64 ((rd_T35 x8_3 x41_4).f1)] 35 (0, 0)) (by (with_reducible repeat (first | refine blk_drewN ?_ _ | refine blk_drew ?_ | refine blk_alloc ?_ _)); refine blk_put (cs := #[.int .i64 ((rd_T35 x8_3 x41_4).f0), .int .i64 0]) ?_ 1 _ rfl; (with_reducible repeat (first | refine blk_drewN ?_ _ | refine blk_drew ?_ | refine blk_alloc ?_ _)); refine blk_put (cs := #[.int .i64 0, .int .i64 0]) ?_ 0 _ rfl; (with_reducible repeat (first | refine blk_drewN ?_ _ | refine blk_drew ?_ | refine blk_alloc ?_ _)); exact BK156.out) hb); have n7_ := Aside0.mk (below_step (by repeat (first | (with_reducible first | exact HB.out | apply below_alloc | apply pw_below_drewN | apply below_drew1 | refine below_set ?_ GE140.out | refine below_set ?_ GE142.out | refine below_set ?_ GE156.out) | exact HB.out)) hb); clear HO_3; clear HO_13; clear HO_39; clear BK140; clear BK142; clear BK156; clear HB; have HO_3 := n0_; have HO_13 := n1_; have HO_39 := n2_; have HO159 := n3_; have BK140 := n4_; have BK142 := n5_; have BK156 := n6_; have HB := n7_; clear n0_ n1_ n2_ n3_ n4_ n5_ n6_ n7_; (try clear hb); (try clear hb2); (try clear hk); (try clear hi); (try clear ho0); obtain ⟨Ao44, co44, eo44⟩ := Kd.R_slice HO159.out; subst eo44) | ((with_reducible refine gate_builtin (b := .append) (xs := #[.tmp 45, .tmp 48]) rfl ?_); at_builtin; refine Kd.S_append (Kd.slice 35 k35) (w0 := w) w.heap.size rfl (.tmp 45) (.tmp 48) 27 22 (.slice none 0 0) 24 rfl Try.underlying27 info22 rfl (by decide) (by omega) u3 x3_4 t157 [.slice Ao44 t157.length co44] (fun k_ => some k_ ≠ (.slice (some ad139) t136.length co4 : Value).ownBlock ∧ some k_ ≠ (.slice (some ad155) x8_3.length co32 : Value).ownBlock ∧ k_ ≠ gb140 ∧ k_ ≠ gb156) (fun k_ => some k_ = (.slice Ao44 t157.length co44 : Value).ownBlock) rfl rfl ?aP (fun k_ hk_ => ((Kd.R_mono (ok' := fun k_ => ((fun k_ => some k_ ≠ (.slice (some ad139) t136.length co4 : Value).ownBlock ∧ some k_ ≠ (.slice (some ad155) x8_3.length co32 : Value).ownBlock ∧ k_ ≠ gb140 ∧ k_ ≠ gb156)) k_ ∧ some k_ ≠ (u3 : Value).ownBlock) (Kd.R_apart' (HO159.out) (Kd.S_typed HO_3.out) (by decide)) (fun k_ hk => ⟨⟨hk.1.1.1.1.2, ⟨hk.1.1.1.2, ⟨hk.1.1.2, hk.1.2⟩⟩⟩, hk.2⟩))).1 k_ hk_.symm) ?aF ?aO ?aB ?aS ?aL ?_; (case aP => exact Kd.M_row (Kd.R_mono (Kd.R_tight rfl (Kd.R_mono (ok' := fun k_ => ((fun k_ => some k_ ≠ (.slice (some ad139) t136.length co4 : Value).ownBlock ∧ some k_ ≠ (.slice (some ad155) x8_3.length co32 : Value).ownBlock ∧ k_ ≠ gb140 ∧ k_ ≠ gb156)) k_ ∧ some k_ ≠ (u3 : Value).ownBlock) (Kd.R_apart' (HO159.out) (Kd.S_typed HO_3.out) (by decide)) (fun k_ hk => ⟨⟨hk.1.1.1.1.2, ⟨hk.1.1.1.2, ⟨hk.1.1.2, hk.1.2⟩⟩⟩, hk.2⟩))) (fun _ h_ => h_))); (case aB => exact (by repeat (first | (with_reducible first | exact HB.out | apply below_alloc | apply pw_below_drewN | apply below_drew1 | refine below_set ?_ GE140.out | refine below_set ?_ GE142.out | refine below_set ?_ GE156.out) | exact HB.out))); (case aF => exact (fun k_ hk => ⟨Kd.fresh' (Kd.R_lt (by (with_reducible repeat (first | apply Kd.R_alloc | apply Kd.R_drewN | apply Kd.R_drew)); exact HO_13.out)) k_ hk, Kd.fresh' (Kd.R_lt (by (with_reducible repeat (first | apply Kd.R_alloc | apply Kd.R_drewN | apply Kd.R_drew)); exact HO_39.out)) k_ hk, Kd.freshB (g := gb140) (o := .cells #[.int .i64 ((rd_T35 t136 x15_1).f0), .int .i64 ((rd_T35 t136 x15_1).f1)] 35 (0, 0)) (by (with_reducible repeat (first | refine blk_drewN ?_ _ | refine blk_drew ?_ | refine blk_alloc ?_ _)); exact BK140.out) k_ hk, Kd.freshB (g := gb156) (o := .cells #[.int .i64 ((rd_T35 x8_3 x41_4).f0), .int .i64 ((rd_T35 x8_3 x41_4).f1)] 35 (0, 0)) (by (with_reducible repeat (first | refine blk_drewN ?_ _ | refine blk_drew ?_ | refine blk_alloc ?_ _)); exact BK156.out) k_ hk⟩)); (case aO => exact (by (with_reducible repeat (first | apply Kd.S_alloc | apply Kd.S_drewN | apply Kd.S_drew)); exact Kd.S_mono HO_3.out (fun k_ hk => ⟨⟨hk.1.1.1, ⟨hk.1.1.2.1, ⟨hk.1.1.2.2, hk.1.2⟩⟩⟩, fun e_ => hk.2 e_⟩))); (case aS => exact (below_size (by repeat (first | (with_reducible first | exact HB.out | apply below_alloc | apply pw_below_drewN | apply below_drew1 | refine below_set ?_ GE140.out | refine below_set ?_ GE142.out | refine below_set ?_ GE156.out) | exact HB.out)))); (case aL => have := LMc37.out; omega); intro v161 w43 ho hb hg hat; rw [← Ny160.out] at ho; have n0_ := Aside0.mk (Kd.R_over' (by (with_reducible repeat (first | apply Kd.R_alloc | apply Kd.R_drewN | apply Kd.R_drew)); exact HO_13.out) (Kd.S_typed (by (with_reducible repeat (first | apply Kd.S_alloc | apply Kd.S_drewN | apply Kd.S_drew)); exact HO_3.out)) (by decide) hg); have n1_ := Aside0.mk (Kd.R_over' (by (with_reducible repeat (first | apply Kd.R_alloc | apply Kd.R_drewN | apply Kd.R_drew)); exact HO_39.out) (Kd.S_typed (by (with_reducible repeat (first | apply Kd.S_alloc | apply Kd.S_drewN | apply Kd.S_drew)); exact HO_3.out)) (by decide) hg); have n2_ := Aside0.mk (blk_grown (g := gb140) (o := .cells #[.int .i64 ((rd_T35 t136 x15_1).f0), .int .i64 ((rd_T35 t136 x15_1).f1)] 35 (0, 0)) (by (with_reducible repeat (first | refine blk_drewN ?_ _ | refine blk_drew ?_ | refine blk_alloc ?_ _)); exact BK140.out) hg (Kd.S_ne HO_3.out BK140.out (by decide))); have n3_ := Aside0.mk (blk_grown (g := gb142) (o := .cells #[.int .i64 (Own.kLo x20_2), .int .i64 (Own.kHi x20_2), .int .i64 (Own.kMore x20_2)] 62 (0, 0)) (by (with_reducible repeat (first | refine blk_drewN ?_ _ | refine blk_drew ?_ | refine blk_alloc ?_ _)); exact BK142.out) hg (Kd.S_ne HO_3.out BK142.out (by decide))); have n4_ := Aside0.mk (blk_grown (g := gb156) (o := .cells #[.int .i64 ((rd_T35 x8_3 x41_4).f0), .int .i64 ((rd_T35 x8_3 x41_4).f1)] 35 (0, 0)) (by (with_reducible repeat (first | refine blk_drewN ?_ _ | refine blk_drew ?_ | refine blk_alloc ?_ _)); exact BK156.out) hg (Kd.S_ne HO_3.out BK156.out (by decide))); have n5_ := Aside0.mk (hb); have n6_ := Aside0.mk (ho); clear HO_13; clear HO_39; clear BK140; clear BK142; clear BK156; clear HB; clear HO_3; clear HO159; have HO_13 := n0_; have HO_39 := n1_; have BK140 := n2_; have BK142 := n3_; have BK156 := n4_; have HB := n5_; have HO162 := n6_; clear n0_ n1_ n2_ n3_ n4_ n5_ n6_; clear ho hb hg hat))
                                      go_roundg k4
                                      case measure => have := HK1.out; have := HK2.out; have := HK3.out; have := HK4.out; omega
                                      case rel => exact ⟨(y160), (wrap64 (x41_4 + 1)), (by first | rfl | (simp; done) | (simp [*]; done) | (simp [*, bne]; done)), H', ⟨by have := HK1.out; have := HK2.out; have := HK3.out; have := HK4.out; omega⟩, ⟨by (with_reducible repeat (first | apply Kd.S_alloc | apply Kd.S_drewN | apply Kd.S_drew)); exact Kd.S_mono HO162.out (fun _ hk => ⟨hk.1, ⟨hk.2.1, hk.2.2.1⟩⟩)⟩, ⟨by (with_reducible repeat (first | apply Kd.R_alloc | apply Kd.R_drewN | apply Kd.R_drew)); exact Kd.R_mono HO_13.out (fun _ hk => ⟨hk.1.1.1, hk.1.1.2⟩)⟩, ⟨by (with_reducible repeat (first | apply Kd.R_alloc | apply Kd.R_drewN | apply Kd.R_drew)); exact Kd.R_mono HO_39.out (fun _ hk => ⟨hk.1.1.1, hk.1.1.2⟩)⟩, ⟨by (with_reducible repeat (first | refine blk_drewN ?_ _ | refine blk_drew ?_ | refine blk_alloc ?_ _)); exact BK140.out⟩, ⟨by (with_reducible repeat (first | refine blk_drewN ?_ _ | refine blk_drew ?_ | refine blk_alloc ?_ _)); exact BK142.out⟩, ⟨by repeat (first | (with_reducible first | exact HB.out | apply below_alloc | apply pw_below_drewN | apply below_drew1 | refine below_set ?_ GE140.out | refine below_set ?_ GE142.out | refine below_set ?_ GE156.out) | exact HB.out)⟩⟩
                                    · rw [if_neg c37] at H
                                      exact absurd H (by simp)
                                  · rw [if_neg c35] at H
                                    exact absurd H (by simp)
                                · rw [if_neg c34] at H
                                  exact absurd H (by simp)
                              · rw [if_neg c33] at H
                                have c33b0 : decide (x41_4 < (x8_3.length : Int)) = false := decide_eq_false c33
                                clear c33
                                have H' := Aside0.mk H
                                clear H
                                go_wp2
                                go_roundg k4
                                case measure => have := HK1.out; have := HK2.out; have := HK3.out; have := HK4.out; omega
                                case rel => exact ⟨(x3_4), (wrap64 (x20_2 + 1)), (by first | rfl | (simp; done) | (simp [*]; done) | (simp [*, bne]; done)), H', ⟨by have := HK1.out; have := HK2.out; have := HK3.out; have := HK4.out; omega⟩, ⟨by (with_reducible repeat (first | apply Kd.S_alloc | apply Kd.S_drewN | apply Kd.S_drew)); exact Kd.S_mono HO_3.out (fun _ hk => ⟨hk.1, hk.2.2⟩)⟩, ⟨by (with_reducible repeat (first | apply Kd.R_alloc | apply Kd.R_drewN | apply Kd.R_drew)); exact Kd.R_mono HO_13.out (fun _ hk => hk.2)⟩, ⟨by (with_reducible repeat (first | refine blk_drewN ?_ _ | refine blk_drew ?_ | refine blk_alloc ?_ _)); exact BK140.out⟩, ⟨by repeat (first | (with_reducible first | exact HB.out | apply below_alloc | apply pw_below_drewN | apply below_drew1 | refine below_set ?_ GE140.out | refine below_set ?_ GE142.out) | exact HB.out)⟩⟩
                  · rw [if_neg c13] at H
                    exact absurd H (by simp)
                · rw [if_neg c12] at H
                  have c12b0 : decide (x20_2 < 5) = false := decide_eq_false c12
                  clear c12
                  have H' := Aside0.mk H
                  clear H
                  go_wp2
                  go_roundg k2
                  case measure => have := HK1.out; have := HK2.out; omega
                  case rel => exact ⟨(x3_2), (wrap64 (x15_1 + 1)), (by first | rfl | (simp; done) | (simp [*]; done) | (simp [*, bne]; done)), H', ⟨by have := HK1.out; have := HK2.out; omega⟩, ⟨by (with_reducible repeat (first | apply Kd.S_alloc | apply Kd.S_drewN | apply Kd.S_drew)); exact Kd.S_mono HO_3.out (fun _ hk => hk.1)⟩, ⟨by (with_reducible repeat (first | apply Kd.R_alloc | apply Kd.R_drewN | apply Kd.R_drew)); exact Kd.R_mono HO_13.out (fun _ hk => trivial)⟩, ⟨by repeat (first | (with_reducible first | exact HB.out | apply below_alloc | apply pw_below_drewN | apply below_drew1 | refine below_set ?_ GE140.out) | exact HB.out)⟩⟩
          · rw [if_neg c7] at H
            exact absurd H (by simp)
        · rw [if_neg c6] at H
          exact absurd H (by simp)
      · rw [if_neg c5] at H
        have c5b0 : decide (x15_1 < (t136.length : Int)) = false := decide_eq_false c5
        clear c5
        obtain rfl := Option.some.inj H
        go_wp2
        go_ret
        exact ⟨_, by first | rfl | (simp [errW_none, errW_some] <;> rfl) | (simp [*, errW_none, errW_some] <;> rfl), by (with_reducible repeat (first | apply Kd.S_alloc | apply Kd.S_drewN | apply Kd.S_drew)); exact Kd.S_mono HO_3.out (fun _ hk => trivial), by repeat (first | (with_reducible first | exact HB.out | apply below_alloc | apply pw_below_drewN | apply below_drew1) | exact HB.out)⟩
def seqs_fits.f (a0 : List (S35)) (a1 : List Int) : Option Int := some (Own.fitsB a0 a1 : Nat)
theorem seqs_fits.calls (A0 : Option Addr) (c0 : Nat) (l0 : List (S35)) (A1 : Option Addr) (c1 : Nat) (l1 : List Int) (r : Int) (w : World) (hr0 : Kd.C k35 w A0 l0.length l0) (hc0 : l0.length ≤ c0) (hr1 : Kd.C (Kd.int .u8) w A1 l1.length l1) (hc1 : l1.length ≤ c1) (h : seqs_fits.f l0 l1 = some r) :
    Calls Try.prog 40 #[.slice A0 l0.length c0, .slice A1 l1.length c1] w fun e w' => e = .returned (.int .i64 r) ∧ Below w.heap.size w w' := by
  obtain rfl := Option.some.inj h
  refine (Own.fits_calls A0 c0 l0 A1 c1 l1 w hr0 hr1 hc1).mono ?_
  rintro e w' ⟨he, rfl⟩
  exact ⟨he, Below.refl _ _⟩
end Go.Proofs.Ytcdahnkdongmdaa.All
