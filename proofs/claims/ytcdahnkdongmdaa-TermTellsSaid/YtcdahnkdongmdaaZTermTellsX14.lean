/- Texts of the claim TermTells, merged, without what it does not use. -/
import Derived.Test.YtcdahnkdongmdaaZTermTellsX1
import Derived.Test.YtcdahnkdongmdaaZTermTellsX12
import Derived.Test.YtcdahnkdongmdaaZTermTellsX13
namespace Go.Proofs.Ytcdahnkdongmdaa.All
open Go.RowKit Go.Proofs.YtcdahnkdongmdaaW.PrintWords Go.Proofs.YtcdahnkdongmdaaW.PrintLast Go.Proofs.YtcdahnkdongmdaaW.PrintMore
attribute [local go_sem] max2_int min2_int max_two min_two
set_option linter.unusedVariables false
set_option linter.unusedSimpArgs false
def exegeteref14_Match.j0 : Nat → List Int → Int → Bool → Int → List (S35) → Int → Option (Int × Bool)
  | 0, _, _, _, _, _, _ => none
  | k + 1, x1, x2, x19, x265000, x265001, x265002 => if x19 = true then (some (0, false)) else (if x265000 = 0 then (if 0 ≤ x2 then (if x2 < (x1.length : Int) then ((exegeteref02_Has.f k x265001 (wrap64 (rd x1 x2))).bind fun t266 => (if t266 = true then (some (1, true)) else (some (0, false)))) else (none)) else (none)) else ((exegeteref01_Next.f k x1 x2).bind fun bt267 => ((exegeteref02_Has.f k x265001 bt267.1).bind fun t269 => (if x265000 = 1 then (if bt267.1 ≥ 0 then (if t269 = true then (some (bt267.2, true)) else (some (0, false))) else (some (0, false))) else (some (0, false))))))
def exegeteref14_Match.f (k : Nat) (a0_0 : Int) (l0_1 : List (S35)) (a0_2 : Int) (l1 : List Int) (a2 : Int) : Option (Int × Bool) := if a2 < 0 then (exegeteref14_Match.j0 k l1 a2 true a0_0 l0_1 a0_2) else (exegeteref14_Match.j0 k l1 a2 (decide (a2 ≥ (l1.length : Int))) a0_0 l0_1 a0_2)
set_option maxHeartbeats 8000000 in
set_option maxRecDepth 100000 in
theorem exegeteref14_Match.calls (k : Nat) (a0_0 : Int) (A0_1 : Option Addr) (c0_1 : Nat) (l0_1 : List (S35)) (a0_2 : Int) (A1 : Option Addr) (c1 : Nat) (l1 : List Int) (a2 : Int) (r1 : Int) (r2 : Bool) (w : World) (hr0_1 : Kd.C k35 w A0_1 l0_1.length l0_1) (hc0_1 : l0_1.length ≤ c0_1) (hr1 : Kd.C (Kd.int .u8) w A1 l1.length l1) (hc1 : l1.length ≤ c1) (h : exegeteref14_Match.f k a0_0 l0_1 a0_2 l1 a2 = some (r1, r2)) :
 Calls Try.prog 26 #[.agg #[.int .i64 a0_0, .slice A0_1 l0_1.length c0_1, .int .i64 a0_2], .slice A1 l1.length c1, .int .i64 a2] w fun e w' => e = .returned (.tuple #[.int .i64 r1, .bool r2]) ∧ Below w.heap.size w w' := by
 have hu43 := Try.underlying43
 have HR0_1 := Aside0.mk hr0_1
 have HC0_1 := Aside0.mk hc0_1
 clear hr0_1 hc0_1
 have HR1 := Aside0.mk hr1
 have HC1 := Aside0.mk hc1
 clear hr1 hc1
 have HB := Aside0.mk (Below.refl w.heap.size w)
 have H : (if a2 < 0 then (exegeteref14_Match.j0 k l1 a2 true a0_0 l0_1 a0_2) else (exegeteref14_Match.j0 k l1 a2 (decide (a2 ≥ (l1.length : Int))) a0_0 l0_1 a0_2)) = some (r1, r2) := h
 clear h; have HC4 := Aside0.mk H; clear H
 go_enter Try.func26, Try.ntmps26
 go_upto_region 1 with (first | ((with_reducible refine gate_dst (N := 3) rfl ?_); (try (refine gate_guard (by rfl) ?_; dsimp only)); refine box_event ?hg (N := 3) ?hd (cs := #[.int .i64 a0_0, .slice A0_1 l0_1.length c0_1, .int .i64 a0_2]) (t := 43) ?hr ?_; (case hd => rfl); (case hg => rfl); (case hr => first | (go_simp; done) | (go_simp; rfl)); intro gb264 hg w5 hbox hb; have n0_ := Aside0.mk (below_step (wU HB.out) hb); have n1_ := Aside0.mk (hbox); have n2_ := Aside0.mk ((by rw [hg]; exact (below_size (wU HB.out)) : w.heap.size ≤ gb264)); have n3_ := Aside0.mk ((by rw [hg]; exact (below_size (wU HB.out)) : w.heap.size ≤ gb264)); clear HB; have HB := n0_; have BK264 := n1_; have GW264 := n2_; have GE264 := n3_; clear n0_ n1_ n2_ n3_; clear hb hbox hg))
 repeat (go_quiet (first | ((with_reducible refine gate_dst (N := 3) rfl ?_); (try (refine gate_guard (by rfl) ?_; dsimp only)); refine box_event ?hg (N := 3) ?hd (cs := #[.int .i64 a0_0, .slice A0_1 l0_1.length c0_1, .int .i64 a0_2]) (t := 43) ?hr ?_; (case hd => rfl); (case hg => rfl); (case hr => first | (go_simp; done) | (go_simp; rfl)); intro gb264 hg w5 hbox hb; have n0_ := Aside0.mk (below_step (wU HB.out) hb); have n1_ := Aside0.mk (hbox); have n2_ := Aside0.mk ((by rw [hg]; exact (below_size (wU HB.out)) : w.heap.size ≤ gb264)); have n3_ := Aside0.mk ((by rw [hg]; exact (below_size (wU HB.out)) : w.heap.size ≤ gb264)); clear HB; have HB := n0_; have BK264 := n1_; have GW264 := n2_; have GE264 := n3_; clear n0_ n1_ n2_ n3_; clear hb hbox hg)); go_upto_region 1 with (first | ((with_reducible refine gate_dst (N := 3) rfl ?_); (try (refine gate_guard (by rfl) ?_; dsimp only)); refine box_event ?hg (N := 3) ?hd (cs := #[.int .i64 a0_0, .slice A0_1 l0_1.length c0_1, .int .i64 a0_2]) (t := 43) ?hr ?_; (case hd => rfl); (case hg => rfl); (case hr => first | (go_simp; done) | (go_simp; rfl)); intro gb264 hg w5 hbox hb; have n0_ := Aside0.mk (below_step (wU HB.out) hb); have n1_ := Aside0.mk (hbox); have n2_ := Aside0.mk ((by rw [hg]; exact (below_size (wU HB.out)) : w.heap.size ≤ gb264)); have n3_ := Aside0.mk ((by rw [hg]; exact (below_size (wU HB.out)) : w.heap.size ≤ gb264)); clear HB; have HB := n0_; have BK264 := n1_; have GW264 := n2_; have GE264 := n3_; clear n0_ n1_ n2_ n3_; clear hb hbox hg)))
 (try simp only [Act.put, qA, qB, qC])
 go_cut [19] (fun v19 wc => ∃ (kq : Nat) (x19_3 : Bool), v19 = .bool x19_3 ∧ Aside0 (exegeteref14_Match.j0 kq l1 a2 x19_3 a0_0 l0_1 a0_2 = some (r1, r2)) ∧ Aside0 (kq ≤ k) ∧ Aside0 (wc.heap[gb264]? = some (.cells #[.int .i64 a0_0, (.slice A0_1 l0_1.length c0_1), .int .i64 a0_2] 43 (0, 0))) ∧ Aside0 (Below w.heap.size w wc))
 case first =>
  have H := HC4.out
  clear HC4
  by_cases c6 : a2 < 0
  · rw [if_pos c6] at H
    have c6b0 : decide (a2 < 0) = true := decide_eq_true c6
    clear c6
    (first | rw [c6b0] | (simp only [i64_w, i32_w]; rw [c6b0]) | skip)
    have H' := Aside0.mk H; clear H
    go_wp2
    repeat (go_quiet (fail); try go_wp2)
    go_meet
    case rel => exact ⟨_, (true), (by first | rfl | (simp; done) | (simp [*]; done) | (simp [*, bne]; done)), H', ⟨by first | omega | exact Nat.le_refl _⟩, ⟨bU BK264.out⟩, ⟨wV HB.out GE264.out⟩⟩
  rw [if_neg c6] at H
  have c6b0 : decide (a2 < 0) = false := decide_eq_false c6
  clear c6
  (first | rw [c6b0] | (simp only [i64_w, i32_w]; rw [c6b0]) | skip)
  have H' := Aside0.mk H; clear H
  go_wp2
  repeat (go_quiet (fail); try go_wp2)
  go_meet
  case rel => exact ⟨_, (decide (a2 ≥ (l1.length : Int))), (by first | rfl | (simp; done) | (simp [*]; done) | (simp [*, bne]; done)), H', ⟨by first | omega | exact Nat.le_refl _⟩, ⟨bU BK264.out⟩, ⟨wV HB.out GE264.out⟩⟩
 case rest =>
  clear HC4; (try clear c1); (try clear c2); (try clear p2); (try clear c6); (try clear c6b0)
  obtain ⟨kq, x19_3, rfl, HA, HJ3, BK264, HB⟩ := hcut
  cases kq with
  | zero => exact absurd HA.out (by simp [exegeteref14_Match.j0])
  | succ kj3 =>
   have H := HA.out
   clear HA
   simp only [exegeteref14_Match.j0] at H
   by_cases c7 : x19_3 = true
   · subst c7
     have H1 : (some (0, false)) = some (r1, r2) := by rw [if_pos rfl] at H; exact H
     clear H; have H := H1; clear H1
     simp only [Option.some.injEq, Prod.mk.injEq] at H
     obtain ⟨rfl, rfl⟩ := H
     go_wp2
     repeat (go_quiet (fail); try go_wp2)
     go_ret2
     exact ⟨by first | rfl | (simp [errW_none, errW_some] <;> rfl) | (simp [*, errW_none, errW_some] <;> rfl), wV HB.out GE264.out⟩
   replace c7 := Bool.eq_false_iff.mpr c7
   subst c7
   have H1 : (if a0_0 = 0 then (if 0 ≤ a2 then (if a2 < (l1.length : Int) then ((exegeteref02_Has.f kj3 l0_1 (wrap64 (rd l1 a2))).bind fun t266 => (if t266 = true then (some (1, true)) else (some (0, false)))) else (none)) else (none)) else ((exegeteref01_Next.f kj3 l1 a2).bind fun bt267 => ((exegeteref02_Has.f kj3 l0_1 bt267.1).bind fun t269 => (if a0_0 = 1 then (if bt267.1 ≥ 0 then (if t269 = true then (some (bt267.2, true)) else (some (0, false))) else (some (0, false))) else (some (0, false)))))) = some (r1, r2) := by rw [if_neg (show ¬ (false = true) by decide)] at H; exact H
   clear H; have H := H1; clear H1
   by_cases c8 : a0_0 = 0
   · rw [if_pos c8] at H
     have c8b0 : (a0_0 == 0) = true := beq_iff_eq.mpr c8
     have c8b1 : (a0_0 != 0) = false := bne_eq_false_iff_eq.mpr c8
     clear c8
     by_cases c9 : 0 ≤ a2
     rotate_left
     · rw [if_neg c9] at H
       exact absurd H (by simp)
     rw [if_pos c9] at H
     have c9b0 : decide (0 ≤ a2) = true := decide_eq_true c9
     clear c9
     by_cases c10 : a2 < (l1.length : Int)
     rotate_left
     · rw [if_neg c10] at H
       exact absurd H (by simp)
     rw [if_pos c10] at H
     have c10b0 : decide (a2 < (l1.length : Int)) = true := decide_eq_true c10
     clear c10
     replace H := Option.bind_eq_some_iff.mp H
     obtain ⟨t266, A110, H⟩ := H
     replace H : (if t266 = true then (some (1, true)) else (some (0, false))) = some (r1, r2) := H
     have A11 := Aside0.mk A110
     clear A110
     by_cases c12 : t266 = true
     · subst c12
       have H1 : (some (1, true)) = some (r1, r2) := by rw [if_pos rfl] at H; exact H
       clear H; have H := H1; clear H1
       simp only [Option.some.injEq, Prod.mk.injEq] at H
       obtain ⟨rfl, rfl⟩ := H
       have hcz13_0 : wc.cell? ⟨gb264, 0, none⟩ = some (.int .i64 a0_0) := (blk_cell BK264.out 0).trans rfl
       have hcz13_1 : wc.cell? ⟨gb264, 1, none⟩ = some (.slice A0_1 l0_1.length c0_1) := (blk_cell BK264.out 1).trans rfl
       have hcz13_2 : wc.cell? ⟨gb264, 2, none⟩ = some (.int .i64 a0_2) := (blk_cell BK264.out 2).trans rfl
       have hfz13_0 := blk_frozen BK264.out 0
       have hfz13_1 := blk_frozen BK264.out 1
       have hfz13_2 := blk_frozen BK264.out 2
       have p265 : 0 ≤ (a2 : Int) := of_decide_eq_true (by first | (with_reducible assumption) | assumption)
       have q265 : a2 < (l1.length : Int) := of_decide_eq_true (by first | (with_reducible assumption) | assumption)
       obtain ⟨ad265, e265, hx265_0⟩ := Kd.at_int HR1.out a2 p265 q265
       cases e265
       replace hx265_0 := (HB.out.cell (World.block_lt_of_cell? w _ hx265_0)).trans hx265_0
       replace p265 := eq_true p265; replace q265 := eq_true q265
       go_wp2_with (first | (go_at_call 53; (with_reducible refine (exegeteref02_Has.calls kj3 _ _ l0_1 (wrap64 (rd l1 a2)) true _ ?side1 ?side2 A11.out).mono ?_); (case side1 => exact cU (Kd.C_below HR0_1.out HB.out)); (case side2 => exact HC0_1.out); rintro e w' ⟨rfl, ⟨nd, rfl⟩⟩; (try first | exact ⟨rfl, _, World.drewN_drewN _ _ _⟩ | exact ⟨rfl, _, Eq.trans (World.drewN_drewN _ _ _) (congrArg (World.drewN _) (Nat.add_assoc _ _ _))⟩)))
       repeat (go_quiet (first | (go_at_call 53; (with_reducible refine (exegeteref02_Has.calls kj3 _ _ l0_1 (wrap64 (rd l1 a2)) true _ ?side1 ?side2 A11.out).mono ?_); (case side1 => exact cU (Kd.C_below HR0_1.out HB.out)); (case side2 => exact HC0_1.out); rintro e w' ⟨rfl, ⟨nd, rfl⟩⟩; (try first | exact ⟨rfl, _, World.drewN_drewN _ _ _⟩ | exact ⟨rfl, _, Eq.trans (World.drewN_drewN _ _ _) (congrArg (World.drewN _) (Nat.add_assoc _ _ _))⟩))); try go_wp2_with (first | (go_at_call 53; (with_reducible refine (exegeteref02_Has.calls kj3 _ _ l0_1 (wrap64 (rd l1 a2)) true _ ?side1 ?side2 A11.out).mono ?_); (case side1 => exact cU (Kd.C_below HR0_1.out HB.out)); (case side2 => exact HC0_1.out); rintro e w' ⟨rfl, ⟨nd, rfl⟩⟩; (try first | exact ⟨rfl, _, World.drewN_drewN _ _ _⟩ | exact ⟨rfl, _, Eq.trans (World.drewN_drewN _ _ _) (congrArg (World.drewN _) (Nat.add_assoc _ _ _))⟩))))
       go_ret2
       exact ⟨by first | rfl | (simp [errW_none, errW_some] <;> rfl) | (simp [*, errW_none, errW_some] <;> rfl), wV HB.out GE264.out⟩
     replace c12 := Bool.eq_false_iff.mpr c12
     subst c12
     have H1 : (some (0, false)) = some (r1, r2) := by rw [if_neg (show ¬ (false = true) by decide)] at H; exact H
     clear H; have H := H1; clear H1
     simp only [Option.some.injEq, Prod.mk.injEq] at H
     obtain ⟨rfl, rfl⟩ := H
     have hcz14_0 : wc.cell? ⟨gb264, 0, none⟩ = some (.int .i64 a0_0) := (blk_cell BK264.out 0).trans rfl
     have hcz14_1 : wc.cell? ⟨gb264, 1, none⟩ = some (.slice A0_1 l0_1.length c0_1) := (blk_cell BK264.out 1).trans rfl
     have hcz14_2 : wc.cell? ⟨gb264, 2, none⟩ = some (.int .i64 a0_2) := (blk_cell BK264.out 2).trans rfl
     have hfz14_0 := blk_frozen BK264.out 0
     have hfz14_1 := blk_frozen BK264.out 1
     have hfz14_2 := blk_frozen BK264.out 2
     have p265 : 0 ≤ (a2 : Int) := of_decide_eq_true (by first | (with_reducible assumption) | assumption)
     have q265 : a2 < (l1.length : Int) := of_decide_eq_true (by first | (with_reducible assumption) | assumption)
     obtain ⟨ad265, e265, hx265_0⟩ := Kd.at_int HR1.out a2 p265 q265
     cases e265
     replace hx265_0 := (HB.out.cell (World.block_lt_of_cell? w _ hx265_0)).trans hx265_0
     replace p265 := eq_true p265; replace q265 := eq_true q265
     go_wp2_with (first | (go_at_call 53; (with_reducible refine (exegeteref02_Has.calls kj3 _ _ l0_1 (wrap64 (rd l1 a2)) false _ ?side1 ?side2 A11.out).mono ?_); (case side1 => exact cU (Kd.C_below HR0_1.out HB.out)); (case side2 => exact HC0_1.out); rintro e w' ⟨rfl, ⟨nd, rfl⟩⟩; (try first | exact ⟨rfl, _, World.drewN_drewN _ _ _⟩ | exact ⟨rfl, _, Eq.trans (World.drewN_drewN _ _ _) (congrArg (World.drewN _) (Nat.add_assoc _ _ _))⟩)))
     repeat (go_quiet (first | (go_at_call 53; (with_reducible refine (exegeteref02_Has.calls kj3 _ _ l0_1 (wrap64 (rd l1 a2)) false _ ?side1 ?side2 A11.out).mono ?_); (case side1 => exact cU (Kd.C_below HR0_1.out HB.out)); (case side2 => exact HC0_1.out); rintro e w' ⟨rfl, ⟨nd, rfl⟩⟩; (try first | exact ⟨rfl, _, World.drewN_drewN _ _ _⟩ | exact ⟨rfl, _, Eq.trans (World.drewN_drewN _ _ _) (congrArg (World.drewN _) (Nat.add_assoc _ _ _))⟩))); try go_wp2_with (first | (go_at_call 53; (with_reducible refine (exegeteref02_Has.calls kj3 _ _ l0_1 (wrap64 (rd l1 a2)) false _ ?side1 ?side2 A11.out).mono ?_); (case side1 => exact cU (Kd.C_below HR0_1.out HB.out)); (case side2 => exact HC0_1.out); rintro e w' ⟨rfl, ⟨nd, rfl⟩⟩; (try first | exact ⟨rfl, _, World.drewN_drewN _ _ _⟩ | exact ⟨rfl, _, Eq.trans (World.drewN_drewN _ _ _) (congrArg (World.drewN _) (Nat.add_assoc _ _ _))⟩))))
     go_ret2
     exact ⟨by first | rfl | (simp [errW_none, errW_some] <;> rfl) | (simp [*, errW_none, errW_some] <;> rfl), wV HB.out GE264.out⟩
   rw [if_neg c8] at H
   have c8b0 : (a0_0 == 0) = false := beq_eq_false_iff_ne.mpr c8
   have c8b1 : (a0_0 != 0) = true := bne_iff_ne.mpr c8
   replace H := Option.bind_eq_some_iff.mp H
   obtain ⟨⟨t267, t268⟩, A150, H⟩ := H
   replace H : ((exegeteref02_Has.f kj3 l0_1 t267).bind fun t269 => (if a0_0 = 1 then (if t267 ≥ 0 then (if t269 = true then (some (t268, true)) else (some (0, false))) else (some (0, false))) else (some (0, false)))) = some (r1, r2) := H
   have A15 := Aside0.mk A150
   clear A150
   replace H := Option.bind_eq_some_iff.mp H
   obtain ⟨t269, A160, H⟩ := H
   replace H : (if a0_0 = 1 then (if t267 ≥ 0 then (if t269 = true then (some (t268, true)) else (some (0, false))) else (some (0, false))) else (some (0, false))) = some (r1, r2) := H
   have A16 := Aside0.mk A160
   clear A160
   by_cases c17 : a0_0 = 1
   rotate_left
   · rw [if_neg c17] at H
     have c17b0 : (a0_0 == 1) = false := beq_eq_false_iff_ne.mpr c17
     have c17b1 : (a0_0 != 1) = true := bne_iff_ne.mpr c17
     simp only [Option.some.injEq, Prod.mk.injEq] at H
     obtain ⟨rfl, rfl⟩ := H
     have hcz29_0 : wc.cell? ⟨gb264, 0, none⟩ = some (.int .i64 a0_0) := (blk_cell BK264.out 0).trans rfl
     have hcz29_1 : wc.cell? ⟨gb264, 1, none⟩ = some (.slice A0_1 l0_1.length c0_1) := (blk_cell BK264.out 1).trans rfl
     have hcz29_2 : wc.cell? ⟨gb264, 2, none⟩ = some (.int .i64 a0_2) := (blk_cell BK264.out 2).trans rfl
     have hfz29_0 := blk_frozen BK264.out 0
     have hfz29_1 := blk_frozen BK264.out 1
     have hfz29_2 := blk_frozen BK264.out 2
     go_wp2_with (first | (go_at_call 54; (with_reducible refine (exegeteref01_Next.calls kj3 _ _ l1 a2 t267 t268 _ ?side1 ?side2 A15.out).mono ?_); (case side1 => exact cU (Kd.C_below HR1.out HB.out)); (case side2 => exact HC1.out); rintro e w30 ⟨rfl, hb⟩; have n0_ := Aside0.mk (blk_below (g := gb264) (o := .cells #[.int .i64 a0_0, .slice A0_1 l0_1.length c0_1, .int .i64 a0_2] 43 (0, 0)) (bU BK264.out) hb); have n1_ := Aside0.mk (below_step (wV HB.out GE264.out) hb); clear BK264; clear HB; have BK264 := n0_; have HB := n1_; clear n0_ n1_; (try clear hb); (try clear hb2); (try clear hk); (try clear hi); have hcz31_0 : w30.cell? ⟨gb264, 0, none⟩ = some (.int .i64 a0_0) := (blk_cell BK264.out 0).trans rfl; have hcz31_1 : w30.cell? ⟨gb264, 1, none⟩ = some (.slice A0_1 l0_1.length c0_1) := (blk_cell BK264.out 1).trans rfl; have hcz31_2 : w30.cell? ⟨gb264, 2, none⟩ = some (.int .i64 a0_2) := (blk_cell BK264.out 2).trans rfl; have hfz31_0 := blk_frozen BK264.out 0; have hfz31_1 := blk_frozen BK264.out 1; have hfz31_2 := blk_frozen BK264.out 2) | (go_at_call 53; (with_reducible refine (exegeteref02_Has.calls kj3 _ _ l0_1 t267 t269 _ ?side1 ?side2 A16.out).mono ?_); (case side1 => exact cU (Kd.C_below HR0_1.out HB.out)); (case side2 => exact HC0_1.out); rintro e w' ⟨rfl, ⟨nd, rfl⟩⟩; (try first | exact ⟨rfl, _, World.drewN_drewN _ _ _⟩ | exact ⟨rfl, _, Eq.trans (World.drewN_drewN _ _ _) (congrArg (World.drewN _) (Nat.add_assoc _ _ _))⟩)))
     repeat (go_quiet (first | (go_at_call 54; (with_reducible refine (exegeteref01_Next.calls kj3 _ _ l1 a2 t267 t268 _ ?side1 ?side2 A15.out).mono ?_); (case side1 => exact cU (Kd.C_below HR1.out HB.out)); (case side2 => exact HC1.out); rintro e w30 ⟨rfl, hb⟩; have n0_ := Aside0.mk (blk_below (g := gb264) (o := .cells #[.int .i64 a0_0, .slice A0_1 l0_1.length c0_1, .int .i64 a0_2] 43 (0, 0)) (bU BK264.out) hb); have n1_ := Aside0.mk (below_step (wV HB.out GE264.out) hb); clear BK264; clear HB; have BK264 := n0_; have HB := n1_; clear n0_ n1_; (try clear hb); (try clear hb2); (try clear hk); (try clear hi); have hcz31_0 : w30.cell? ⟨gb264, 0, none⟩ = some (.int .i64 a0_0) := (blk_cell BK264.out 0).trans rfl; have hcz31_1 : w30.cell? ⟨gb264, 1, none⟩ = some (.slice A0_1 l0_1.length c0_1) := (blk_cell BK264.out 1).trans rfl; have hcz31_2 : w30.cell? ⟨gb264, 2, none⟩ = some (.int .i64 a0_2) := (blk_cell BK264.out 2).trans rfl; have hfz31_0 := blk_frozen BK264.out 0; have hfz31_1 := blk_frozen BK264.out 1; have hfz31_2 := blk_frozen BK264.out 2) | (go_at_call 53; (with_reducible refine (exegeteref02_Has.calls kj3 _ _ l0_1 t267 t269 _ ?side1 ?side2 A16.out).mono ?_); (case side1 => exact cU (Kd.C_below HR0_1.out HB.out)); (case side2 => exact HC0_1.out); rintro e w' ⟨rfl, ⟨nd, rfl⟩⟩; (try first | exact ⟨rfl, _, World.drewN_drewN _ _ _⟩ | exact ⟨rfl, _, Eq.trans (World.drewN_drewN _ _ _) (congrArg (World.drewN _) (Nat.add_assoc _ _ _))⟩))); try go_wp2_with (first | (go_at_call 54; (with_reducible refine (exegeteref01_Next.calls kj3 _ _ l1 a2 t267 t268 _ ?side1 ?side2 A15.out).mono ?_); (case side1 => exact cU (Kd.C_below HR1.out HB.out)); (case side2 => exact HC1.out); rintro e w30 ⟨rfl, hb⟩; have n0_ := Aside0.mk (blk_below (g := gb264) (o := .cells #[.int .i64 a0_0, .slice A0_1 l0_1.length c0_1, .int .i64 a0_2] 43 (0, 0)) (bU BK264.out) hb); have n1_ := Aside0.mk (below_step (wV HB.out GE264.out) hb); clear BK264; clear HB; have BK264 := n0_; have HB := n1_; clear n0_ n1_; (try clear hb); (try clear hb2); (try clear hk); (try clear hi); have hcz31_0 : w30.cell? ⟨gb264, 0, none⟩ = some (.int .i64 a0_0) := (blk_cell BK264.out 0).trans rfl; have hcz31_1 : w30.cell? ⟨gb264, 1, none⟩ = some (.slice A0_1 l0_1.length c0_1) := (blk_cell BK264.out 1).trans rfl; have hcz31_2 : w30.cell? ⟨gb264, 2, none⟩ = some (.int .i64 a0_2) := (blk_cell BK264.out 2).trans rfl; have hfz31_0 := blk_frozen BK264.out 0; have hfz31_1 := blk_frozen BK264.out 1; have hfz31_2 := blk_frozen BK264.out 2) | (go_at_call 53; (with_reducible refine (exegeteref02_Has.calls kj3 _ _ l0_1 t267 t269 _ ?side1 ?side2 A16.out).mono ?_); (case side1 => exact cU (Kd.C_below HR0_1.out HB.out)); (case side2 => exact HC0_1.out); rintro e w' ⟨rfl, ⟨nd, rfl⟩⟩; (try first | exact ⟨rfl, _, World.drewN_drewN _ _ _⟩ | exact ⟨rfl, _, Eq.trans (World.drewN_drewN _ _ _) (congrArg (World.drewN _) (Nat.add_assoc _ _ _))⟩))))
     go_ret2
     exact ⟨by first | rfl | (simp [errW_none, errW_some] <;> rfl) | (simp [*, errW_none, errW_some] <;> rfl), wV HB.out GE264.out⟩
   rw [if_pos c17] at H
   have c17b0 : (a0_0 == 1) = true := beq_iff_eq.mpr c17
   have c17b1 : (a0_0 != 1) = false := bne_eq_false_iff_eq.mpr c17
   clear c17
   by_cases c18 : t267 ≥ 0
   rotate_left
   · rw [if_neg c18] at H
     have c18b0 : decide (0 ≤ t267) = false := decide_eq_false c18
     clear c18
     simp only [Option.some.injEq, Prod.mk.injEq] at H
     obtain ⟨rfl, rfl⟩ := H
     have hcz26_0 : wc.cell? ⟨gb264, 0, none⟩ = some (.int .i64 a0_0) := (blk_cell BK264.out 0).trans rfl
     have hcz26_1 : wc.cell? ⟨gb264, 1, none⟩ = some (.slice A0_1 l0_1.length c0_1) := (blk_cell BK264.out 1).trans rfl
     have hcz26_2 : wc.cell? ⟨gb264, 2, none⟩ = some (.int .i64 a0_2) := (blk_cell BK264.out 2).trans rfl
     have hfz26_0 := blk_frozen BK264.out 0
     have hfz26_1 := blk_frozen BK264.out 1
     have hfz26_2 := blk_frozen BK264.out 2
     go_wp2_with (first | (go_at_call 54; (with_reducible refine (exegeteref01_Next.calls kj3 _ _ l1 a2 t267 t268 _ ?side1 ?side2 A15.out).mono ?_); (case side1 => exact cU (Kd.C_below HR1.out HB.out)); (case side2 => exact HC1.out); rintro e w27 ⟨rfl, hb⟩; have n0_ := Aside0.mk (blk_below (g := gb264) (o := .cells #[.int .i64 a0_0, .slice A0_1 l0_1.length c0_1, .int .i64 a0_2] 43 (0, 0)) (bU BK264.out) hb); have n1_ := Aside0.mk (below_step (wV HB.out GE264.out) hb); clear BK264; clear HB; have BK264 := n0_; have HB := n1_; clear n0_ n1_; (try clear hb); (try clear hb2); (try clear hk); (try clear hi); have hcz28_0 : w27.cell? ⟨gb264, 0, none⟩ = some (.int .i64 a0_0) := (blk_cell BK264.out 0).trans rfl; have hcz28_1 : w27.cell? ⟨gb264, 1, none⟩ = some (.slice A0_1 l0_1.length c0_1) := (blk_cell BK264.out 1).trans rfl; have hcz28_2 : w27.cell? ⟨gb264, 2, none⟩ = some (.int .i64 a0_2) := (blk_cell BK264.out 2).trans rfl; have hfz28_0 := blk_frozen BK264.out 0; have hfz28_1 := blk_frozen BK264.out 1; have hfz28_2 := blk_frozen BK264.out 2) | (go_at_call 53; (with_reducible refine (exegeteref02_Has.calls kj3 _ _ l0_1 t267 t269 _ ?side1 ?side2 A16.out).mono ?_); (case side1 => exact cU (Kd.C_below HR0_1.out HB.out)); (case side2 => exact HC0_1.out); rintro e w' ⟨rfl, ⟨nd, rfl⟩⟩; (try first | exact ⟨rfl, _, World.drewN_drewN _ _ _⟩ | exact ⟨rfl, _, Eq.trans (World.drewN_drewN _ _ _) (congrArg (World.drewN _) (Nat.add_assoc _ _ _))⟩)))
     repeat (go_quiet (first | (go_at_call 54; (with_reducible refine (exegeteref01_Next.calls kj3 _ _ l1 a2 t267 t268 _ ?side1 ?side2 A15.out).mono ?_); (case side1 => exact cU (Kd.C_below HR1.out HB.out)); (case side2 => exact HC1.out); rintro e w27 ⟨rfl, hb⟩; have n0_ := Aside0.mk (blk_below (g := gb264) (o := .cells #[.int .i64 a0_0, .slice A0_1 l0_1.length c0_1, .int .i64 a0_2] 43 (0, 0)) (bU BK264.out) hb); have n1_ := Aside0.mk (below_step (wV HB.out GE264.out) hb); clear BK264; clear HB; have BK264 := n0_; have HB := n1_; clear n0_ n1_; (try clear hb); (try clear hb2); (try clear hk); (try clear hi); have hcz28_0 : w27.cell? ⟨gb264, 0, none⟩ = some (.int .i64 a0_0) := (blk_cell BK264.out 0).trans rfl; have hcz28_1 : w27.cell? ⟨gb264, 1, none⟩ = some (.slice A0_1 l0_1.length c0_1) := (blk_cell BK264.out 1).trans rfl; have hcz28_2 : w27.cell? ⟨gb264, 2, none⟩ = some (.int .i64 a0_2) := (blk_cell BK264.out 2).trans rfl; have hfz28_0 := blk_frozen BK264.out 0; have hfz28_1 := blk_frozen BK264.out 1; have hfz28_2 := blk_frozen BK264.out 2) | (go_at_call 53; (with_reducible refine (exegeteref02_Has.calls kj3 _ _ l0_1 t267 t269 _ ?side1 ?side2 A16.out).mono ?_); (case side1 => exact cU (Kd.C_below HR0_1.out HB.out)); (case side2 => exact HC0_1.out); rintro e w' ⟨rfl, ⟨nd, rfl⟩⟩; (try first | exact ⟨rfl, _, World.drewN_drewN _ _ _⟩ | exact ⟨rfl, _, Eq.trans (World.drewN_drewN _ _ _) (congrArg (World.drewN _) (Nat.add_assoc _ _ _))⟩))); try go_wp2_with (first | (go_at_call 54; (with_reducible refine (exegeteref01_Next.calls kj3 _ _ l1 a2 t267 t268 _ ?side1 ?side2 A15.out).mono ?_); (case side1 => exact cU (Kd.C_below HR1.out HB.out)); (case side2 => exact HC1.out); rintro e w27 ⟨rfl, hb⟩; have n0_ := Aside0.mk (blk_below (g := gb264) (o := .cells #[.int .i64 a0_0, .slice A0_1 l0_1.length c0_1, .int .i64 a0_2] 43 (0, 0)) (bU BK264.out) hb); have n1_ := Aside0.mk (below_step (wV HB.out GE264.out) hb); clear BK264; clear HB; have BK264 := n0_; have HB := n1_; clear n0_ n1_; (try clear hb); (try clear hb2); (try clear hk); (try clear hi); have hcz28_0 : w27.cell? ⟨gb264, 0, none⟩ = some (.int .i64 a0_0) := (blk_cell BK264.out 0).trans rfl; have hcz28_1 : w27.cell? ⟨gb264, 1, none⟩ = some (.slice A0_1 l0_1.length c0_1) := (blk_cell BK264.out 1).trans rfl; have hcz28_2 : w27.cell? ⟨gb264, 2, none⟩ = some (.int .i64 a0_2) := (blk_cell BK264.out 2).trans rfl; have hfz28_0 := blk_frozen BK264.out 0; have hfz28_1 := blk_frozen BK264.out 1; have hfz28_2 := blk_frozen BK264.out 2) | (go_at_call 53; (with_reducible refine (exegeteref02_Has.calls kj3 _ _ l0_1 t267 t269 _ ?side1 ?side2 A16.out).mono ?_); (case side1 => exact cU (Kd.C_below HR0_1.out HB.out)); (case side2 => exact HC0_1.out); rintro e w' ⟨rfl, ⟨nd, rfl⟩⟩; (try first | exact ⟨rfl, _, World.drewN_drewN _ _ _⟩ | exact ⟨rfl, _, Eq.trans (World.drewN_drewN _ _ _) (congrArg (World.drewN _) (Nat.add_assoc _ _ _))⟩))))
     go_ret2
     exact ⟨by first | rfl | (simp [errW_none, errW_some] <;> rfl) | (simp [*, errW_none, errW_some] <;> rfl), wV HB.out GE264.out⟩
   rw [if_pos c18] at H
   have c18b0 : decide (0 ≤ t267) = true := decide_eq_true c18
   clear c18
   by_cases c19 : t269 = true
   · subst c19
     have H1 : (some (t268, true)) = some (r1, r2) := by rw [if_pos rfl] at H; exact H
     clear H; have H := H1; clear H1
     simp only [Option.some.injEq, Prod.mk.injEq] at H
     obtain ⟨rfl, rfl⟩ := H
     have hcz20_0 : wc.cell? ⟨gb264, 0, none⟩ = some (.int .i64 a0_0) := (blk_cell BK264.out 0).trans rfl
     have hcz20_1 : wc.cell? ⟨gb264, 1, none⟩ = some (.slice A0_1 l0_1.length c0_1) := (blk_cell BK264.out 1).trans rfl
     have hcz20_2 : wc.cell? ⟨gb264, 2, none⟩ = some (.int .i64 a0_2) := (blk_cell BK264.out 2).trans rfl
     have hfz20_0 := blk_frozen BK264.out 0
     have hfz20_1 := blk_frozen BK264.out 1
     have hfz20_2 := blk_frozen BK264.out 2
     go_wp2_with (first | (go_at_call 54; (with_reducible refine (exegeteref01_Next.calls kj3 _ _ l1 a2 t267 t268 _ ?side1 ?side2 A15.out).mono ?_); (case side1 => exact cU (Kd.C_below HR1.out HB.out)); (case side2 => exact HC1.out); rintro e w21 ⟨rfl, hb⟩; have n0_ := Aside0.mk (blk_below (g := gb264) (o := .cells #[.int .i64 a0_0, .slice A0_1 l0_1.length c0_1, .int .i64 a0_2] 43 (0, 0)) (bU BK264.out) hb); have n1_ := Aside0.mk (below_step (wV HB.out GE264.out) hb); clear BK264; clear HB; have BK264 := n0_; have HB := n1_; clear n0_ n1_; (try clear hb); (try clear hb2); (try clear hk); (try clear hi); have hcz22_0 : w21.cell? ⟨gb264, 0, none⟩ = some (.int .i64 a0_0) := (blk_cell BK264.out 0).trans rfl; have hcz22_1 : w21.cell? ⟨gb264, 1, none⟩ = some (.slice A0_1 l0_1.length c0_1) := (blk_cell BK264.out 1).trans rfl; have hcz22_2 : w21.cell? ⟨gb264, 2, none⟩ = some (.int .i64 a0_2) := (blk_cell BK264.out 2).trans rfl; have hfz22_0 := blk_frozen BK264.out 0; have hfz22_1 := blk_frozen BK264.out 1; have hfz22_2 := blk_frozen BK264.out 2) | (go_at_call 53; (with_reducible refine (exegeteref02_Has.calls kj3 _ _ l0_1 t267 true _ ?side1 ?side2 A16.out).mono ?_); (case side1 => exact cU (Kd.C_below HR0_1.out HB.out)); (case side2 => exact HC0_1.out); rintro e w' ⟨rfl, ⟨nd, rfl⟩⟩; (try first | exact ⟨rfl, _, World.drewN_drewN _ _ _⟩ | exact ⟨rfl, _, Eq.trans (World.drewN_drewN _ _ _) (congrArg (World.drewN _) (Nat.add_assoc _ _ _))⟩)))
     repeat (go_quiet (first | (go_at_call 54; (with_reducible refine (exegeteref01_Next.calls kj3 _ _ l1 a2 t267 t268 _ ?side1 ?side2 A15.out).mono ?_); (case side1 => exact cU (Kd.C_below HR1.out HB.out)); (case side2 => exact HC1.out); rintro e w21 ⟨rfl, hb⟩; have n0_ := Aside0.mk (blk_below (g := gb264) (o := .cells #[.int .i64 a0_0, .slice A0_1 l0_1.length c0_1, .int .i64 a0_2] 43 (0, 0)) (bU BK264.out) hb); have n1_ := Aside0.mk (below_step (wV HB.out GE264.out) hb); clear BK264; clear HB; have BK264 := n0_; have HB := n1_; clear n0_ n1_; (try clear hb); (try clear hb2); (try clear hk); (try clear hi); have hcz22_0 : w21.cell? ⟨gb264, 0, none⟩ = some (.int .i64 a0_0) := (blk_cell BK264.out 0).trans rfl; have hcz22_1 : w21.cell? ⟨gb264, 1, none⟩ = some (.slice A0_1 l0_1.length c0_1) := (blk_cell BK264.out 1).trans rfl; have hcz22_2 : w21.cell? ⟨gb264, 2, none⟩ = some (.int .i64 a0_2) := (blk_cell BK264.out 2).trans rfl; have hfz22_0 := blk_frozen BK264.out 0; have hfz22_1 := blk_frozen BK264.out 1; have hfz22_2 := blk_frozen BK264.out 2) | (go_at_call 53; (with_reducible refine (exegeteref02_Has.calls kj3 _ _ l0_1 t267 true _ ?side1 ?side2 A16.out).mono ?_); (case side1 => exact cU (Kd.C_below HR0_1.out HB.out)); (case side2 => exact HC0_1.out); rintro e w' ⟨rfl, ⟨nd, rfl⟩⟩; (try first | exact ⟨rfl, _, World.drewN_drewN _ _ _⟩ | exact ⟨rfl, _, Eq.trans (World.drewN_drewN _ _ _) (congrArg (World.drewN _) (Nat.add_assoc _ _ _))⟩))); try go_wp2_with (first | (go_at_call 54; (with_reducible refine (exegeteref01_Next.calls kj3 _ _ l1 a2 t267 t268 _ ?side1 ?side2 A15.out).mono ?_); (case side1 => exact cU (Kd.C_below HR1.out HB.out)); (case side2 => exact HC1.out); rintro e w21 ⟨rfl, hb⟩; have n0_ := Aside0.mk (blk_below (g := gb264) (o := .cells #[.int .i64 a0_0, .slice A0_1 l0_1.length c0_1, .int .i64 a0_2] 43 (0, 0)) (bU BK264.out) hb); have n1_ := Aside0.mk (below_step (wV HB.out GE264.out) hb); clear BK264; clear HB; have BK264 := n0_; have HB := n1_; clear n0_ n1_; (try clear hb); (try clear hb2); (try clear hk); (try clear hi); have hcz22_0 : w21.cell? ⟨gb264, 0, none⟩ = some (.int .i64 a0_0) := (blk_cell BK264.out 0).trans rfl; have hcz22_1 : w21.cell? ⟨gb264, 1, none⟩ = some (.slice A0_1 l0_1.length c0_1) := (blk_cell BK264.out 1).trans rfl; have hcz22_2 : w21.cell? ⟨gb264, 2, none⟩ = some (.int .i64 a0_2) := (blk_cell BK264.out 2).trans rfl; have hfz22_0 := blk_frozen BK264.out 0; have hfz22_1 := blk_frozen BK264.out 1; have hfz22_2 := blk_frozen BK264.out 2) | (go_at_call 53; (with_reducible refine (exegeteref02_Has.calls kj3 _ _ l0_1 t267 true _ ?side1 ?side2 A16.out).mono ?_); (case side1 => exact cU (Kd.C_below HR0_1.out HB.out)); (case side2 => exact HC0_1.out); rintro e w' ⟨rfl, ⟨nd, rfl⟩⟩; (try first | exact ⟨rfl, _, World.drewN_drewN _ _ _⟩ | exact ⟨rfl, _, Eq.trans (World.drewN_drewN _ _ _) (congrArg (World.drewN _) (Nat.add_assoc _ _ _))⟩))))
     go_ret2
     exact ⟨by first | rfl | (simp [errW_none, errW_some] <;> rfl) | (simp [*, errW_none, errW_some] <;> rfl), wV HB.out GE264.out⟩
   replace c19 := Bool.eq_false_iff.mpr c19
   subst c19
   have H1 : (some (0, false)) = some (r1, r2) := by rw [if_neg (show ¬ (false = true) by decide)] at H; exact H
   clear H; have H := H1; clear H1
   simp only [Option.some.injEq, Prod.mk.injEq] at H
   obtain ⟨rfl, rfl⟩ := H
   have hcz23_0 : wc.cell? ⟨gb264, 0, none⟩ = some (.int .i64 a0_0) := (blk_cell BK264.out 0).trans rfl
   have hcz23_1 : wc.cell? ⟨gb264, 1, none⟩ = some (.slice A0_1 l0_1.length c0_1) := (blk_cell BK264.out 1).trans rfl
   have hcz23_2 : wc.cell? ⟨gb264, 2, none⟩ = some (.int .i64 a0_2) := (blk_cell BK264.out 2).trans rfl
   have hfz23_0 := blk_frozen BK264.out 0
   have hfz23_1 := blk_frozen BK264.out 1
   have hfz23_2 := blk_frozen BK264.out 2
   go_wp2_with (first | (go_at_call 54; (with_reducible refine (exegeteref01_Next.calls kj3 _ _ l1 a2 t267 t268 _ ?side1 ?side2 A15.out).mono ?_); (case side1 => exact cU (Kd.C_below HR1.out HB.out)); (case side2 => exact HC1.out); rintro e w24 ⟨rfl, hb⟩; have n0_ := Aside0.mk (blk_below (g := gb264) (o := .cells #[.int .i64 a0_0, .slice A0_1 l0_1.length c0_1, .int .i64 a0_2] 43 (0, 0)) (bU BK264.out) hb); have n1_ := Aside0.mk (below_step (wV HB.out GE264.out) hb); clear BK264; clear HB; have BK264 := n0_; have HB := n1_; clear n0_ n1_; (try clear hb); (try clear hb2); (try clear hk); (try clear hi); have hcz25_0 : w24.cell? ⟨gb264, 0, none⟩ = some (.int .i64 a0_0) := (blk_cell BK264.out 0).trans rfl; have hcz25_1 : w24.cell? ⟨gb264, 1, none⟩ = some (.slice A0_1 l0_1.length c0_1) := (blk_cell BK264.out 1).trans rfl; have hcz25_2 : w24.cell? ⟨gb264, 2, none⟩ = some (.int .i64 a0_2) := (blk_cell BK264.out 2).trans rfl; have hfz25_0 := blk_frozen BK264.out 0; have hfz25_1 := blk_frozen BK264.out 1; have hfz25_2 := blk_frozen BK264.out 2) | (go_at_call 53; (with_reducible refine (exegeteref02_Has.calls kj3 _ _ l0_1 t267 false _ ?side1 ?side2 A16.out).mono ?_); (case side1 => exact cU (Kd.C_below HR0_1.out HB.out)); (case side2 => exact HC0_1.out); rintro e w' ⟨rfl, ⟨nd, rfl⟩⟩; (try first | exact ⟨rfl, _, World.drewN_drewN _ _ _⟩ | exact ⟨rfl, _, Eq.trans (World.drewN_drewN _ _ _) (congrArg (World.drewN _) (Nat.add_assoc _ _ _))⟩)))
   repeat (go_quiet (first | (go_at_call 54; (with_reducible refine (exegeteref01_Next.calls kj3 _ _ l1 a2 t267 t268 _ ?side1 ?side2 A15.out).mono ?_); (case side1 => exact cU (Kd.C_below HR1.out HB.out)); (case side2 => exact HC1.out); rintro e w24 ⟨rfl, hb⟩; have n0_ := Aside0.mk (blk_below (g := gb264) (o := .cells #[.int .i64 a0_0, .slice A0_1 l0_1.length c0_1, .int .i64 a0_2] 43 (0, 0)) (bU BK264.out) hb); have n1_ := Aside0.mk (below_step (wV HB.out GE264.out) hb); clear BK264; clear HB; have BK264 := n0_; have HB := n1_; clear n0_ n1_; (try clear hb); (try clear hb2); (try clear hk); (try clear hi); have hcz25_0 : w24.cell? ⟨gb264, 0, none⟩ = some (.int .i64 a0_0) := (blk_cell BK264.out 0).trans rfl; have hcz25_1 : w24.cell? ⟨gb264, 1, none⟩ = some (.slice A0_1 l0_1.length c0_1) := (blk_cell BK264.out 1).trans rfl; have hcz25_2 : w24.cell? ⟨gb264, 2, none⟩ = some (.int .i64 a0_2) := (blk_cell BK264.out 2).trans rfl; have hfz25_0 := blk_frozen BK264.out 0; have hfz25_1 := blk_frozen BK264.out 1; have hfz25_2 := blk_frozen BK264.out 2) | (go_at_call 53; (with_reducible refine (exegeteref02_Has.calls kj3 _ _ l0_1 t267 false _ ?side1 ?side2 A16.out).mono ?_); (case side1 => exact cU (Kd.C_below HR0_1.out HB.out)); (case side2 => exact HC0_1.out); rintro e w' ⟨rfl, ⟨nd, rfl⟩⟩; (try first | exact ⟨rfl, _, World.drewN_drewN _ _ _⟩ | exact ⟨rfl, _, Eq.trans (World.drewN_drewN _ _ _) (congrArg (World.drewN _) (Nat.add_assoc _ _ _))⟩))); try go_wp2_with (first | (go_at_call 54; (with_reducible refine (exegeteref01_Next.calls kj3 _ _ l1 a2 t267 t268 _ ?side1 ?side2 A15.out).mono ?_); (case side1 => exact cU (Kd.C_below HR1.out HB.out)); (case side2 => exact HC1.out); rintro e w24 ⟨rfl, hb⟩; have n0_ := Aside0.mk (blk_below (g := gb264) (o := .cells #[.int .i64 a0_0, .slice A0_1 l0_1.length c0_1, .int .i64 a0_2] 43 (0, 0)) (bU BK264.out) hb); have n1_ := Aside0.mk (below_step (wV HB.out GE264.out) hb); clear BK264; clear HB; have BK264 := n0_; have HB := n1_; clear n0_ n1_; (try clear hb); (try clear hb2); (try clear hk); (try clear hi); have hcz25_0 : w24.cell? ⟨gb264, 0, none⟩ = some (.int .i64 a0_0) := (blk_cell BK264.out 0).trans rfl; have hcz25_1 : w24.cell? ⟨gb264, 1, none⟩ = some (.slice A0_1 l0_1.length c0_1) := (blk_cell BK264.out 1).trans rfl; have hcz25_2 : w24.cell? ⟨gb264, 2, none⟩ = some (.int .i64 a0_2) := (blk_cell BK264.out 2).trans rfl; have hfz25_0 := blk_frozen BK264.out 0; have hfz25_1 := blk_frozen BK264.out 1; have hfz25_2 := blk_frozen BK264.out 2) | (go_at_call 53; (with_reducible refine (exegeteref02_Has.calls kj3 _ _ l0_1 t267 false _ ?side1 ?side2 A16.out).mono ?_); (case side1 => exact cU (Kd.C_below HR0_1.out HB.out)); (case side2 => exact HC0_1.out); rintro e w' ⟨rfl, ⟨nd, rfl⟩⟩; (try first | exact ⟨rfl, _, World.drewN_drewN _ _ _⟩ | exact ⟨rfl, _, Eq.trans (World.drewN_drewN _ _ _) (congrArg (World.drewN _) (Nat.add_assoc _ _ _))⟩))))
   go_ret2
   exact ⟨by first | rfl | (simp [errW_none, errW_some] <;> rfl) | (simp [*, errW_none, errW_some] <;> rfl), wV HB.out GE264.out⟩
def exegeteref04_Ints.l0 : Nat → List Int → List Int → Int → Option (Bool)
  | 0, _, _, _ => none
  | k + 1, x0, x1, x5 => if x5 < (x0.length : Int) then (if 0 ≤ x5 then (if x5 < (x1.length : Int) then (if (rd x0 x5) = (rd x1 x5) then (exegeteref04_Ints.l0 k x0 x1 (wrap64 (x5 + 1))) else (some false)) else (none)) else (none)) else (some true)
def exegeteref04_Ints.f (k : Nat) (l0 : List Int) (l1 : List Int) : Option (Bool) := if (l0.length : Int) = (l1.length : Int) then (exegeteref04_Ints.l0 k l0 l1 0) else (some false)
set_option maxHeartbeats 8000000 in
set_option maxRecDepth 100000 in
theorem exegeteref04_Ints.calls (k : Nat) (A0 : Option Addr) (c0 : Nat) (l0 : List Int) (A1 : Option Addr) (c1 : Nat) (l1 : List Int) (r : Bool) (w : World) (hr0 : Kd.C (Kd.int .i64) w A0 l0.length l0) (hc0 : l0.length ≤ c0) (hr1 : Kd.C (Kd.int .i64) w A1 l1.length l1) (hc1 : l1.length ≤ c1) (h : exegeteref04_Ints.f k l0 l1 = some r) :
 Calls Try.prog 27 #[.slice A0 l0.length c0, .slice A1 l1.length c1] w fun e w' => e = .returned (.bool r) ∧ Drawn0 w w' := by
 have HR0 := Aside0.mk hr0
 have HC0 := Aside0.mk hc0
 clear hr0 hc0
 have HR1 := Aside0.mk hr1
 have HC1 := Aside0.mk hc1
 clear hr1 hc1
 have H : (if (l0.length : Int) = (l1.length : Int) then (exegeteref04_Ints.l0 k l0 l1 0) else (some false)) = some r := h
 clear h
 by_cases c3 : (l0.length : Int) = (l1.length : Int)
 rotate_left
 · rw [if_neg c3] at H
   have c3b0 : ((l0.length : Int) == (l1.length : Int)) = false := beq_eq_false_iff_ne.mpr c3
   have c3b1 : ((l0.length : Int) != (l1.length : Int)) = true := bne_iff_ne.mpr c3
   have c3b2 : (l0.length == l1.length) = false := by first | simpa using c3 | (simp at c3 ⊢; omega)
   obtain rfl := Option.some.inj H
   go_enter Try.func27, Try.ntmps27
   go_wp2
   repeat (go_quiet (fail); try go_wp2)
   go_ret
   exact ⟨by first | rfl | (simp; done) | (simp [*]; done), by repeat (first | exact Drawn0.refl _ | apply Drawn0.step)⟩
 rw [if_pos c3] at H
 have c3b0 : ((l0.length : Int) == (l1.length : Int)) = true := beq_iff_eq.mpr c3
 have c3b1 : ((l0.length : Int) != (l1.length : Int)) = false := bne_eq_false_iff_eq.mpr c3
 have c3b2 : (l0.length == l1.length) = true := by first | simpa using c3 | (simp at c3 ⊢; omega)
 clear c3; have H' := Aside0.mk H; clear H
 go_enter Try.func27, Try.ntmps27
 go_wp2
 repeat (go_quiet (fail); try go_wp2)
 go_loopg [5] k (fun kq v5 w' => ∃ (x5_1 : Int), v5 = .int .i64 x5_1 ∧ Aside0 (exegeteref04_Ints.l0 kq l0 l1 x5_1 = some r) ∧ Aside0 (kq ≤ k) ∧ Drawn0 w w')
 case atStart => exact ⟨(0), (by first | rfl | (simp; done) | (simp [*]; done) | (simp [*, bne]; done)), H', ⟨Nat.le_refl _⟩, by repeat (first | exact Drawn0.refl _ | apply Drawn0.step)⟩
 case round =>
  clear H'; (try clear c1); (try clear c2); (try clear p2); (try clear c3); (try clear c3b0); (try clear c3b1); (try clear c3b2)
  obtain ⟨x5_1, rfl, HA, HK1, ⟨m1, rfl⟩⟩ := hrel
  cases gk with
  | zero => exact absurd HA.out (by simp [exegeteref04_Ints.l0])
  | succ k1 =>
   have H := HA.out
   clear HA
   simp only [exegeteref04_Ints.l0] at H
   by_cases c4 : x5_1 < (l0.length : Int)
   rotate_left
   · rw [if_neg c4] at H
     have c4b0 : decide (x5_1 < (l0.length : Int)) = false := decide_eq_false c4
     clear c4
     obtain rfl := Option.some.inj H
     go_wp2
     repeat (go_quiet (fail); try go_wp2)
     go_ret
     exact ⟨by first | rfl | (simp; done) | (simp [*]; done), by repeat (first | exact Drawn0.refl _ | apply Drawn0.step)⟩
   rw [if_pos c4] at H
   have c4b0 : decide (x5_1 < (l0.length : Int)) = true := decide_eq_true c4
   clear c4
   by_cases c5 : 0 ≤ x5_1
   rotate_left
   · rw [if_neg c5] at H
     exact absurd H (by simp)
   rw [if_pos c5] at H
   have c5b0 : decide (0 ≤ x5_1) = true := decide_eq_true c5
   clear c5
   by_cases c6 : x5_1 < (l1.length : Int)
   rotate_left
   · rw [if_neg c6] at H
     exact absurd H (by simp)
   rw [if_pos c6] at H
   have c6b0 : decide (x5_1 < (l1.length : Int)) = true := decide_eq_true c6
   clear c6
   by_cases c7 : (rd l0 x5_1) = (rd l1 x5_1)
   · rw [if_pos c7] at H
     have c7b0 : ((rd l0 x5_1) == (rd l1 x5_1)) = true := beq_iff_eq.mpr c7
     have c7b1 : ((rd l0 x5_1) != (rd l1 x5_1)) = false := bne_eq_false_iff_eq.mpr c7
     clear c7; have H' := Aside0.mk H; clear H
     have p270 : 0 ≤ (x5_1 : Int) := of_decide_eq_true (by first | (with_reducible assumption) | assumption)
     have q270 : x5_1 < (l0.length : Int) := of_decide_eq_true (by first | (with_reducible assumption) | assumption)
     obtain ⟨ad270, e270, hx270_0⟩ := Kd.at_int HR0.out x5_1 p270 q270
     cases e270; replace p270 := eq_true p270; replace q270 := eq_true q270
     have p271 : 0 ≤ (x5_1 : Int) := of_decide_eq_true (by first | (with_reducible assumption) | assumption)
     have q271 : x5_1 < (l1.length : Int) := of_decide_eq_true (by first | (with_reducible assumption) | assumption)
     obtain ⟨ad271, e271, hx271_0⟩ := Kd.at_int HR1.out x5_1 p271 q271
     cases e271; replace p271 := eq_true p271; replace q271 := eq_true q271
     go_wp2
     repeat (go_quiet (fail); try go_wp2)
     go_roundg k1
     case measure => have := HK1.out; omega
     case rel => exact ⟨(wrap64 (x5_1 + 1)), (by first | rfl | (simp; done) | (simp [*]; done) | (simp [*, bne]; done)), H', ⟨by have := HK1.out; omega⟩, by repeat (first | exact Drawn0.refl _ | apply Drawn0.step)⟩
   rw [if_neg c7] at H
   have c7b0 : ((rd l0 x5_1) == (rd l1 x5_1)) = false := beq_eq_false_iff_ne.mpr c7
   have c7b1 : ((rd l0 x5_1) != (rd l1 x5_1)) = true := bne_iff_ne.mpr c7
   obtain rfl := Option.some.inj H
   have p270 : 0 ≤ (x5_1 : Int) := of_decide_eq_true (by first | (with_reducible assumption) | assumption)
   have q270 : x5_1 < (l0.length : Int) := of_decide_eq_true (by first | (with_reducible assumption) | assumption)
   obtain ⟨ad270, e270, hx270_0⟩ := Kd.at_int HR0.out x5_1 p270 q270
   cases e270; replace p270 := eq_true p270; replace q270 := eq_true q270
   have p271 : 0 ≤ (x5_1 : Int) := of_decide_eq_true (by first | (with_reducible assumption) | assumption)
   have q271 : x5_1 < (l1.length : Int) := of_decide_eq_true (by first | (with_reducible assumption) | assumption)
   obtain ⟨ad271, e271, hx271_0⟩ := Kd.at_int HR1.out x5_1 p271 q271
   cases e271; replace p271 := eq_true p271; replace q271 := eq_true q271
   go_wp2
   repeat (go_quiet (fail); try go_wp2)
   go_ret
   exact ⟨by first | rfl | (simp; done) | (simp [*]; done), by repeat (first | exact Drawn0.refl _ | apply Drawn0.step)⟩
end Go.Proofs.Ytcdahnkdongmdaa.All
