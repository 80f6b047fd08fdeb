/- Texts of the claim TermTells, merged, without what it does not use. -/
import Derived.Test.YtcdahnkdongmdaaZTermTellsX1
import Derived.Test.YtcdahnkdongmdaaZTermTellsX8
import Derived.Test.YtcdahnkdongmdaaZTermTellsX9
namespace Go.Proofs.Ytcdahnkdongmdaa.All
open Go.RowKit Go.Proofs.YtcdahnkdongmdaaW.PrintWords Go.Proofs.YtcdahnkdongmdaaW.PrintLast Go.Proofs.YtcdahnkdongmdaaW.PrintMore
attribute [local go_sem] max2_int min2_int max_two min_two
set_option linter.unusedVariables false
set_option linter.unusedSimpArgs false
def term_Texts.l0 : Nat → List Int → Int → List Int → List (S43) → Int → Int → Option (List Int)
  | 0, _, _, _, _, _, _ => none
  | k + 1, x1, x2, x7, x12, x13, x14 => if x14 < x13 then (if 0 ≤ x14 then (if x14 < (x12.length : Int) then ((term_Match.f k ((rd_T43 x12 x14).f0) ((rd_T43 x12 x14).f1) ((rd_T43 x12 x14).f2) x1 x2).bind fun bt177 => (if bt177.2 = true then (if x7.length < 17592186044416 then (term_Texts.l0 k x1 (wrap64 (x2 + bt177.1)) (x7 ++ [wrap64 (x2 + bt177.1)]) x12 x13 (wrap64 (x14 + 1))) else (none)) else (some x7))) else (none)) else (none)) else (some x7)
def term_Texts.f (k : Nat) (l0 : List (S43)) (l1 : List Int) (a2 : Int) : Option (List Int) := term_Texts.l0 k l1 a2 ([] : List Int) l0 (l0.length : Int) 0
set_option maxHeartbeats 8000000 in
set_option maxRecDepth 100000 in
theorem term_Texts.calls (k : Nat) (A0 : Option Addr) (c0 : Nat) (l0 : List (S43)) (A1 : Option Addr) (c1 : Nat) (l1 : List Int) (a2 : Int) (r : List Int) (w : World) (hr0 : Kd.C k43 w A0 l0.length l0) (hc0 : l0.length ≤ c0) (hr1 : Kd.C (Kd.int .u8) w A1 l1.length l1) (hc1 : l1.length ≤ c1) (h : term_Texts.f k l0 l1 a2 = some r) :
 Calls Try.prog 28 #[.slice A0 l0.length c0, .slice A1 l1.length c1, .int .i64 a2] w fun e w' => ∃ v0_ : Value, e = .returned (v0_) ∧ Kd.R (Kd.int .i64) 3 w' w.heap.size (fun _ => True) v0_ r ∧ Below w.heap.size w w' := by
 have hu43 := Try.underlying43
 have HR0 := Aside0.mk hr0
 have HC0 := Aside0.mk hc0
 clear hr0 hc0
 have HR1 := Aside0.mk hr1
 have HC1 := Aside0.mk hc1
 clear hr1 hc1
 have HB := Aside0.mk (Below.refl w.heap.size w)
 have H : (term_Texts.l0 k l1 a2 ([] : List Int) l0 (l0.length : Int) 0) = some r := h
 clear h; have H' := Aside0.mk H; clear H
 go_enter Try.func28, Try.ntmps28
 go_wp2
 go_loopg [2, 7, 14] k (fun kq v2 v7 v14 w' => ∃ (x2_1 : Int) (x7_1 : List Int) (x14_1 : Int), v2 = .int .i64 x2_1 ∧ v14 = .int .i64 x14_1 ∧ Aside0 (term_Texts.l0 kq l1 x2_1 x7_1 l0 (l0.length : Int) x14_1 = some r) ∧ Aside0 (kq ≤ k) ∧ Aside0 (Kd.R (Kd.int .i64) 3 w' w.heap.size (fun _ => True) v7 x7_1) ∧ Aside0 (Below w.heap.size w w'))
 case atStart => exact ⟨(a2), (([] : List Int)), (0), (by first | rfl | (simp; done) | (simp [*]; done) | (simp [*, bne]; done)), (by first | rfl | (simp; done) | (simp [*]; done) | (simp [*, bne]; done)), H', ⟨Nat.le_refl _⟩, ⟨by first | exact Kd.R_nil _ _ _ _ _ | exact Kd.N_nil _ _ _ _ _ | exact Kd.V_nil _ _ _ _ _ | exact Kd.Q_nil _ _ _ _ _ | exact Kd.S_nil _ _ _ _ _⟩, ⟨wU HB.out⟩⟩
 case round =>
  clear H'; (try clear c1); (try clear c2); (try clear p2)
  obtain ⟨x2_1, x7_1, x14_1, rfl, rfl, HA, HK1, HO_7, HB⟩ := hrel
  cases gk with
  | zero => exact absurd HA.out (by simp [term_Texts.l0])
  | succ k1 =>
   have H := HA.out
   clear HA
   simp only [term_Texts.l0] at H
   by_cases c4 : x14_1 < (l0.length : Int)
   rotate_left
   · rw [if_neg c4] at H
     have c4b0 : decide (x14_1 < (l0.length : Int)) = false := decide_eq_false c4
     clear c4
     obtain rfl := Option.some.inj H
     go_wp2
     go_ret
     exact ⟨_, by first | rfl | (simp [errW_none, errW_some] <;> rfl) | (simp [*, errW_none, errW_some] <;> rfl), rU HO_7.out, wU HB.out⟩
   rw [if_pos c4] at H
   have c4b0 : decide (x14_1 < (l0.length : Int)) = true := decide_eq_true c4
   clear c4
   by_cases c5 : 0 ≤ x14_1
   rotate_left
   · rw [if_neg c5] at H
     exact absurd H (by simp)
   rw [if_pos c5] at H
   have c5b0 : decide (0 ≤ x14_1) = true := decide_eq_true c5
   clear c5
   by_cases c6 : x14_1 < (l0.length : Int)
   rotate_left
   · rw [if_neg c6] at H
     exact absurd H (by simp)
   rw [if_pos c6] at H
   have c6b0 : decide (x14_1 < (l0.length : Int)) = true := decide_eq_true c6
   clear c6
   replace H := Option.bind_eq_some_iff.mp H
   obtain ⟨⟨t177, t178⟩, A70, H⟩ := H
   replace H : (if t178 = true then (if x7_1.length < 17592186044416 then (term_Texts.l0 k1 l1 (wrap64 (x2_1 + t177)) (x7_1 ++ [wrap64 (x2_1 + t177)]) l0 (l0.length : Int) (wrap64 (x14_1 + 1))) else (none)) else (some x7_1)) = some r := H
   have A7 := Aside0.mk A70
   clear A70
   by_cases c8 : t178 = true
   rotate_left
   · replace c8 := Bool.eq_false_iff.mpr c8
     subst c8
     have H1 : (some x7_1) = some r := by rw [if_neg (show ¬ (false = true) by decide)] at H; exact H
     clear H; have H := H1; clear H1
     obtain rfl := Option.some.inj H
     have p175 : 0 ≤ (x14_1 : Int) := of_decide_eq_true (by first | (with_reducible assumption) | assumption)
     have q175 : x14_1 < (l0.length : Int) := of_decide_eq_true (by first | (with_reducible assumption) | assumption)
     obtain ⟨ad175, A175_1, c175_1, e175, hx175_0, hx175_1, hx175_2, hl175_1, hi175_1⟩ := at_T43 HR0.out x14_1 p175 q175
     cases e175
     replace hx175_0 := (HB.out.cell (World.block_lt_of_cell? w _ hx175_0)).trans hx175_0
     replace hx175_1 := (HB.out.cell (World.block_lt_of_cell? w _ hx175_1)).trans hx175_1
     replace hx175_2 := (HB.out.cell (World.block_lt_of_cell? w _ hx175_2)).trans hx175_2
     have HR175_1 := Aside0.mk hi175_1
     have HC175_1 := Aside0.mk hl175_1
     clear hi175_1 hl175_1; replace p175 := eq_true p175; replace q175 := eq_true q175
     go_wp2_with (first | ((with_reducible refine gate_dst (N := 9) rfl ?_); refine box_event ?hg (N := 9) ?hd (cs := #[.int .i64 0, .slice none 0 0, .int .i64 0]) (t := 43) ?hr ?_; (case hd => rfl); (case hg => rfl); (case hr => first | (go_simp; done) | (go_simp; rfl)); intro gb176 hg w14 hbox hb; have n0_ := Aside0.mk (Kd.R_below (rU HO_7.out) hb); have n1_ := Aside0.mk (below_step (wU HB.out) hb); have n2_ := Aside0.mk (hbox); have n3_ := Aside0.mk ((by rw [hg]; exact (below_size (wU HB.out)) : w.heap.size ≤ gb176)); have n4_ := Aside0.mk ((by rw [hg]; exact (below_size (wU HB.out)) : w.heap.size ≤ gb176)); clear HO_7; clear HB; have HO_7 := n0_; have HB := n1_; have BK176 := n2_; have GW176 := n3_; have GE176 := n4_; clear n0_ n1_ n2_ n3_ n4_; clear hb hbox hg; have hcz15_0 : w14.cell? ⟨gb176, 0, none⟩ = some (.int .i64 0) := (blk_cell BK176.out 0).trans rfl; have hcz15_1 : w14.cell? ⟨gb176, 1, none⟩ = some (.slice none 0 0) := (blk_cell BK176.out 1).trans rfl; have hcz15_2 : w14.cell? ⟨gb176, 2, none⟩ = some (.int .i64 0) := (blk_cell BK176.out 2).trans rfl; have hfz15_0 := blk_frozen BK176.out 0; have hfz15_1 := blk_frozen BK176.out 1; have hfz15_2 := blk_frozen BK176.out 2) | ((with_reducible refine gate_callee (f := 25) rfl ?_); refine goesL_ (some 22) rfl rfl Try.func25 (by kernel_rfl) rfl #[.agg #[.int .i64 ((rd_T43 l0 x14_1).f0), .slice A175_1 ((rd_T43 l0 x14_1).f1).length c175_1, .int .i64 ((rd_T43 l0 x14_1).f2)], .slice A1 l1.length c1, .int .i64 x2_1] rfl (by (try simp only [List.map_toArray, List.map_cons, List.map_nil]); first | done | rfl | (simp only [List.length_drop, List.length_take]; rfl)) ?_; (with_reducible refine (term_Match.calls k1 ((rd_T43 l0 x14_1).f0) _ _ ((rd_T43 l0 x14_1).f1) ((rd_T43 l0 x14_1).f2) _ _ l1 x2_1 t177 false _ ?side1 ?side2 ?side3 ?side4 A7.out).mono ?_); (case side1 => exact Kd.C_below HR175_1.out (wV HB.out GE176.out)); (case side2 => exact HC175_1.out); (case side3 => exact Kd.C_below HR1.out (wV HB.out GE176.out)); (case side4 => exact HC1.out); rintro e w16 ⟨rfl, hb⟩; refine ⟨_, rfl, ?_⟩; have n0_ := Aside0.mk (Kd.R_below (by (with_reducible repeat (first | apply Kd.R_alloc | apply Kd.R_drewN | apply Kd.R_drew)); exact (Kd.R_mono (Kd.R_far (p := ⟨gb176, 2, none⟩) (Kd.R_far (p := ⟨gb176, 1, none⟩) (Kd.R_far (p := ⟨gb176, 0, none⟩) (Kd.R_types HO_7.out BK176.out (by decide)) (fun _ hk => hk.2) (.int .i64 ((rd_T43 l0 x14_1).f0))) (fun _ hk => hk.2) (.slice A175_1 ((rd_T43 l0 x14_1).f1).length c175_1)) (fun _ hk => hk.2) (.int .i64 ((rd_T43 l0 x14_1).f2))) (fun _ h_ => h_.1))) hb); have n1_ := Aside0.mk (blk_below (g := gb176) (o := .cells #[.int .i64 ((rd_T43 l0 x14_1).f0), .slice A175_1 ((rd_T43 l0 x14_1).f1).length c175_1, .int .i64 ((rd_T43 l0 x14_1).f2)] 43 (0, 0)) (by (with_reducible repeat (first | refine blk_drewN ?_ _ | refine blk_drew ?_ | refine blk_alloc ?_ _)); refine blk_put (cs := #[.int .i64 ((rd_T43 l0 x14_1).f0), .slice A175_1 ((rd_T43 l0 x14_1).f1).length c175_1, .int .i64 0]) ?_ 2 _ rfl; (with_reducible repeat (first | refine blk_drewN ?_ _ | refine blk_drew ?_ | refine blk_alloc ?_ _)); refine blk_put (cs := #[.int .i64 ((rd_T43 l0 x14_1).f0), .slice none 0 0, .int .i64 0]) ?_ 1 _ rfl; (with_reducible repeat (first | refine blk_drewN ?_ _ | refine blk_drew ?_ | refine blk_alloc ?_ _)); refine blk_put (cs := #[.int .i64 0, .slice none 0 0, .int .i64 0]) ?_ 0 _ rfl; (with_reducible repeat (first | refine blk_drewN ?_ _ | refine blk_drew ?_ | refine blk_alloc ?_ _)); exact BK176.out) hb); have n2_ := Aside0.mk (below_step (wV HB.out GE176.out) hb); clear HO_7; clear BK176; clear HB; have HO_7 := n0_; have BK176 := n1_; have HB := n2_; clear n0_ n1_ n2_; (try clear hb); (try clear hb2); (try clear hk); (try clear hi)))
     go_ret
     exact ⟨_, by first | rfl | (simp [errW_none, errW_some] <;> rfl) | (simp [*, errW_none, errW_some] <;> rfl), rU HO_7.out, wV HB.out GE176.out⟩
   subst c8
   have H1 : (if x7_1.length < 17592186044416 then (term_Texts.l0 k1 l1 (wrap64 (x2_1 + t177)) (x7_1 ++ [wrap64 (x2_1 + t177)]) l0 (l0.length : Int) (wrap64 (x14_1 + 1))) else (none)) = some r := by rw [if_pos rfl] at H; exact H
   clear H; have H := H1; clear H1
   by_cases c9 : x7_1.length < 17592186044416
   rotate_left
   · rw [if_neg c9] at H
     exact absurd H (by simp)
   rw [if_pos c9] at H
   have LMc9 := Aside0.mk c9
   clear c9
   obtain ⟨y179, hy179⟩ : ∃ y_ : List Int, y_ = (x7_1 ++ [wrap64 (x2_1 + t177)]) := ⟨_, rfl⟩
   replace H : (term_Texts.l0 k1 l1 (wrap64 (x2_1 + t177)) y179 l0 (l0.length : Int) (wrap64 (x14_1 + 1))) = some r := by first | (rw [hy179]; with_reducible exact H) | (have H2_ := (Option.bind_some _ _).symm.trans H; rw [hy179]; with_reducible exact H2_) | (have H2_ := (Option.bind_some _ _).symm.trans H; with_reducible exact H2_) | with_reducible exact H | (rw [hy179]; exact H) | exact H
   have Ny179 := Aside0.mk hy179
   clear hy179; have H' := Aside0.mk H; clear H
   have p175 : 0 ≤ (x14_1 : Int) := of_decide_eq_true (by first | (with_reducible assumption) | assumption)
   have q175 : x14_1 < (l0.length : Int) := of_decide_eq_true (by first | (with_reducible assumption) | assumption)
   obtain ⟨ad175, A175_1, c175_1, e175, hx175_0, hx175_1, hx175_2, hl175_1, hi175_1⟩ := at_T43 HR0.out x14_1 p175 q175
   cases e175
   replace hx175_0 := (HB.out.cell (World.block_lt_of_cell? w _ hx175_0)).trans hx175_0
   replace hx175_1 := (HB.out.cell (World.block_lt_of_cell? w _ hx175_1)).trans hx175_1
   replace hx175_2 := (HB.out.cell (World.block_lt_of_cell? w _ hx175_2)).trans hx175_2
   have HR175_1 := Aside0.mk hi175_1
   have HC175_1 := Aside0.mk hl175_1
   clear hi175_1 hl175_1; replace p175 := eq_true p175; replace q175 := eq_true q175
   go_wp2_with (first | ((with_reducible refine gate_dst (N := 9) rfl ?_); refine box_event ?hg (N := 9) ?hd (cs := #[.int .i64 0, .slice none 0 0, .int .i64 0]) (t := 43) ?hr ?_; (case hd => rfl); (case hg => rfl); (case hr => first | (go_simp; done) | (go_simp; rfl)); intro gb176 hg w10 hbox hb; have n0_ := Aside0.mk (Kd.R_below (rU HO_7.out) hb); have n1_ := Aside0.mk (below_step (wU HB.out) hb); have n2_ := Aside0.mk (hbox); have n3_ := Aside0.mk ((by rw [hg]; exact (below_size (wU HB.out)) : w.heap.size ≤ gb176)); have n4_ := Aside0.mk ((by rw [hg]; exact (below_size (wU HB.out)) : w.heap.size ≤ gb176)); clear HO_7; clear HB; have HO_7 := n0_; have HB := n1_; have BK176 := n2_; have GW176 := n3_; have GE176 := n4_; clear n0_ n1_ n2_ n3_ n4_; clear hb hbox hg; have hcz11_0 : w10.cell? ⟨gb176, 0, none⟩ = some (.int .i64 0) := (blk_cell BK176.out 0).trans rfl; have hcz11_1 : w10.cell? ⟨gb176, 1, none⟩ = some (.slice none 0 0) := (blk_cell BK176.out 1).trans rfl; have hcz11_2 : w10.cell? ⟨gb176, 2, none⟩ = some (.int .i64 0) := (blk_cell BK176.out 2).trans rfl; have hfz11_0 := blk_frozen BK176.out 0; have hfz11_1 := blk_frozen BK176.out 1; have hfz11_2 := blk_frozen BK176.out 2) | ((with_reducible refine gate_callee (f := 25) rfl ?_); refine goesL_ (some 22) rfl rfl Try.func25 (by kernel_rfl) rfl #[.agg #[.int .i64 ((rd_T43 l0 x14_1).f0), .slice A175_1 ((rd_T43 l0 x14_1).f1).length c175_1, .int .i64 ((rd_T43 l0 x14_1).f2)], .slice A1 l1.length c1, .int .i64 x2_1] rfl (by (try simp only [List.map_toArray, List.map_cons, List.map_nil]); first | done | rfl | (simp only [List.length_drop, List.length_take]; rfl)) ?_; (with_reducible refine (term_Match.calls k1 ((rd_T43 l0 x14_1).f0) _ _ ((rd_T43 l0 x14_1).f1) ((rd_T43 l0 x14_1).f2) _ _ l1 x2_1 t177 true _ ?side1 ?side2 ?side3 ?side4 A7.out).mono ?_); (case side1 => exact Kd.C_below HR175_1.out (wV HB.out GE176.out)); (case side2 => exact HC175_1.out); (case side3 => exact Kd.C_below HR1.out (wV HB.out GE176.out)); (case side4 => exact HC1.out); rintro e w12 ⟨rfl, hb⟩; refine ⟨_, rfl, ?_⟩; have n0_ := Aside0.mk (Kd.R_below (by (with_reducible repeat (first | apply Kd.R_alloc | apply Kd.R_drewN | apply Kd.R_drew)); exact (Kd.R_mono (Kd.R_far (p := ⟨gb176, 2, none⟩) (Kd.R_far (p := ⟨gb176, 1, none⟩) (Kd.R_far (p := ⟨gb176, 0, none⟩) (Kd.R_types HO_7.out BK176.out (by decide)) (fun _ hk => hk.2) (.int .i64 ((rd_T43 l0 x14_1).f0))) (fun _ hk => hk.2) (.slice A175_1 ((rd_T43 l0 x14_1).f1).length c175_1)) (fun _ hk => hk.2) (.int .i64 ((rd_T43 l0 x14_1).f2))) (fun _ h_ => h_.1))) hb); have n1_ := Aside0.mk (blk_below (g := gb176) (o := .cells #[.int .i64 ((rd_T43 l0 x14_1).f0), .slice A175_1 ((rd_T43 l0 x14_1).f1).length c175_1, .int .i64 ((rd_T43 l0 x14_1).f2)] 43 (0, 0)) (by (with_reducible repeat (first | refine blk_drewN ?_ _ | refine blk_drew ?_ | refine blk_alloc ?_ _)); refine blk_put (cs := #[.int .i64 ((rd_T43 l0 x14_1).f0), .slice A175_1 ((rd_T43 l0 x14_1).f1).length c175_1, .int .i64 0]) ?_ 2 _ rfl; (with_reducible repeat (first | refine blk_drewN ?_ _ | refine blk_drew ?_ | refine blk_alloc ?_ _)); refine blk_put (cs := #[.int .i64 ((rd_T43 l0 x14_1).f0), .slice none 0 0, .int .i64 0]) ?_ 1 _ rfl; (with_reducible repeat (first | refine blk_drewN ?_ _ | refine blk_drew ?_ | refine blk_alloc ?_ _)); refine blk_put (cs := #[.int .i64 0, .slice none 0 0, .int .i64 0]) ?_ 0 _ rfl; (with_reducible repeat (first | refine blk_drewN ?_ _ | refine blk_drew ?_ | refine blk_alloc ?_ _)); exact BK176.out) hb); have n2_ := Aside0.mk (below_step (wV HB.out GE176.out) hb); clear HO_7; clear BK176; clear HB; have HO_7 := n0_; have BK176 := n1_; have HB := n2_; clear n0_ n1_ n2_; (try clear hb); (try clear hb2); (try clear hk); (try clear hi)) | ((with_reducible refine gate_builtin (b := .append) (xs := #[.tmp 30, .tmp 32]) rfl ?_); at_builtin; refine Kd.R_append (Kd.int .i64) (w0 := w) w.heap.size rfl (.tmp 30) (.tmp 32) 48 3 (.int .i64 0) 8 rfl Try.underlying48 info3 rfl (by decide) (by omega) u7 x7_1 (wrap64 (x2_1 + t177)) [.int .i64 (wrap64 (x2_1 + t177))] (fun _ => True) (fun _ => False) rfl rfl ?aP (fun _ hk => hk.elim) ?aF ?aO ?aB ?aS ?aL ?_; (case aP => exact rfl); (case aB => exact (wV HB.out GE176.out)); (case aF => exact (fun _ _ => trivial)); (case aO => exact (rU HO_7.out)); (case aS => exact (below_size (wV HB.out GE176.out))); (case aL => have := LMc9.out; omega); intro v180 w13 ho hb hg hat; rw [← Ny179.out] at ho; have n0_ := Aside0.mk (blk_grown (g := gb176) (o := .cells #[.int .i64 ((rd_T43 l0 x14_1).f0), .slice A175_1 ((rd_T43 l0 x14_1).f1).length c175_1, .int .i64 ((rd_T43 l0 x14_1).f2)] 43 (0, 0)) (bU BK176.out) hg (Kd.R_ne HO_7.out BK176.out (by decide))); have n1_ := Aside0.mk (hb); have n2_ := Aside0.mk (ho); clear BK176; clear HB; clear HO_7; have BK176 := n0_; have HB := n1_; have HO181 := n2_; clear n0_ n1_ n2_; clear ho hb hg hat))
   go_roundg k1
   case measure => have := HK1.out; omega
   case rel => exact ⟨(wrap64 (x2_1 + t177)), (y179), (wrap64 (x14_1 + 1)), (by first | rfl | (simp; done) | (simp [*]; done) | (simp [*, bne]; done)), (by first | rfl | (simp; done) | (simp [*]; done) | (simp [*, bne]; done)), H', ⟨by have := HK1.out; omega⟩, ⟨rU HO181.out⟩, ⟨wV HB.out GE176.out⟩⟩
mutual
def seqs_Part.j0 : Nat → List (List (S35)) → List Int → Int → Int → Bool → Option (Int)
  | 0, _, _, _, _, _ => none
  | k + 1, x0, x1, x2, x7, x17 => if x17 = true then (some x7) else (seqs_Part.l0 k x1 x2 x7 x0 (x0.length : Int) 0)
def seqs_Part.l0 : Nat → List Int → Int → Int → List (List (S35)) → Int → Int → Option (Int)
  | 0, _, _, _, _, _, _ => none
  | k + 1, x1, x2, x7, x19, x20, x21 => if x21 < x20 then (if 0 ≤ x21 then (if x21 < (x19.length : Int) then (if 0 ≤ x2 then (if x2 ≤ (x1.length : Int) then ((seqs_fits.f (rd_L2 x19 x21) (x1.drop (x2 : Int).toNat)).bind fun t187 => (seqs_Part.l0 k x1 x2 (mx x7 t187) x19 x20 (wrap64 (x21 + 1)))) else (none)) else (none)) else (none)) else (none)) else (some x7)
end
def seqs_Part.f (k : Nat) (l0 : List (List (S35))) (l1 : List Int) (a2 : Int) : Option (Int) := if a2 < 0 then (seqs_Part.j0 k l0 l1 a2 0 true) else (seqs_Part.j0 k l0 l1 a2 0 (decide (a2 > (l1.length : Int))))
set_option maxHeartbeats 8000000 in
set_option maxRecDepth 100000 in
theorem seqs_Part.calls (k : Nat) (A0 : Option Addr) (c0 : Nat) (l0 : List (List (S35))) (A1 : Option Addr) (c1 : Nat) (l1 : List Int) (a2 : Int) (r : Int) (w : World) (hr0 : Kd.C (Kd.slice 35 k35) w A0 l0.length l0) (hc0 : l0.length ≤ c0) (hr1 : Kd.C (Kd.int .u8) w A1 l1.length l1) (hc1 : l1.length ≤ c1) (h : seqs_Part.f k l0 l1 a2 = some r) :
 Calls Try.prog 19 #[.slice A0 l0.length c0, .slice A1 l1.length c1, .int .i64 a2] w fun e w' => e = .returned (.int .i64 r) ∧ Below w.heap.size w w' := by
 have HR0 := Aside0.mk hr0
 have HC0 := Aside0.mk hc0
 clear hr0 hc0
 have HR1 := Aside0.mk hr1
 have HC1 := Aside0.mk hc1
 clear hr1 hc1
 have HB := Aside0.mk (Below.refl w.heap.size w)
 have H : (if a2 < 0 then (seqs_Part.j0 k l0 l1 a2 0 true) else (seqs_Part.j0 k l0 l1 a2 0 (decide (a2 > (l1.length : Int))))) = some r := h
 clear h; have HC4 := Aside0.mk H; clear H
 go_enter Try.func19, Try.ntmps19
 go_upto_region 2 with (fail)
 go_cut [17] (fun v17 wc => ∃ (kq : Nat) (x17_3 : Bool), v17 = .bool x17_3 ∧ Aside0 (seqs_Part.j0 kq l0 l1 a2 0 x17_3 = some r) ∧ Aside0 (kq ≤ k) ∧ Aside0 (Below w.heap.size w wc))
 case first =>
  have H := HC4.out
  clear HC4
  by_cases c5 : a2 < 0
  · rw [if_pos c5] at H
    have c5b0 : decide (a2 < 0) = true := decide_eq_true c5
    clear c5
    (first | rw [c5b0] | (simp only [i64_w, i32_w]; rw [c5b0]) | skip)
    have H' := Aside0.mk H; clear H
    go_wp2
    go_meet
    case rel => exact ⟨_, (true), (by first | rfl | (simp; done) | (simp [*]; done) | (simp [*, bne]; done)), H', ⟨by first | omega | exact Nat.le_refl _⟩, ⟨wU HB.out⟩⟩
  rw [if_neg c5] at H
  have c5b0 : decide (a2 < 0) = false := decide_eq_false c5
  clear c5
  (first | rw [c5b0] | (simp only [i64_w, i32_w]; rw [c5b0]) | skip)
  have H' := Aside0.mk H; clear H
  go_wp2
  go_meet
  case rel => exact ⟨_, (decide (a2 > (l1.length : Int))), (by first | rfl | (simp; done) | (simp [*]; done) | (simp [*, bne]; done)), H', ⟨by first | omega | exact Nat.le_refl _⟩, ⟨wU HB.out⟩⟩
 case rest =>
  clear HC4; (try clear c1); (try clear p2); (try clear c5); (try clear c5b0)
  obtain ⟨kq, x17_3, rfl, HA, HJ3, HB⟩ := hcut
  cases kq with
  | zero => exact absurd HA.out (by simp [seqs_Part.j0])
  | succ kj3 =>
   have H := HA.out
   clear HA
   simp only [seqs_Part.j0] at H
   by_cases c6 : x17_3 = true
   · subst c6
     have H1 : (some 0) = some r := by rw [if_pos rfl] at H; exact H
     clear H; have H := H1; clear H1
     obtain rfl := Option.some.inj H
     go_wp2
     go_ret
     exact ⟨by first | rfl | (simp [errW_none, errW_some] <;> rfl) | (simp [*, errW_none, errW_some] <;> rfl), wU HB.out⟩
   replace c6 := Bool.eq_false_iff.mpr c6
   subst c6
   have H1 : (seqs_Part.l0 kj3 l1 a2 0 l0 (l0.length : Int) 0) = some r := by rw [if_neg (show ¬ (false = true) by decide)] at H; exact H
   clear H; have H := H1; clear H1; have H' := Aside0.mk H; clear H
   go_wp2
   go_loopg [7, 21] kj3 (fun kq v7 v21 w' => ∃ (x7_2 : Int) (x21_2 : Int), v7 = .int .i64 x7_2 ∧ v21 = .int .i64 x21_2 ∧ Aside0 (seqs_Part.l0 kq l1 a2 x7_2 l0 (l0.length : Int) x21_2 = some r) ∧ Aside0 (kq ≤ kj3) ∧ Aside0 (Below w.heap.size w w'))
   case atStart => exact ⟨(0), (0), (by first | rfl | (simp; done) | (simp [*]; done) | (simp [*, bne]; done)), (by first | rfl | (simp; done) | (simp [*]; done) | (simp [*, bne]; done)), H', ⟨Nat.le_refl _⟩, ⟨wU HB.out⟩⟩
   case round =>
    clear H'; (try clear c1); (try clear p2); (try clear c5); (try clear c5b0); (try clear c6); (try clear p2)
    obtain ⟨x7_2, x21_2, rfl, rfl, HA, HK2, HB⟩ := hrel
    cases gk with
    | zero => exact absurd HA.out (by simp [seqs_Part.l0])
    | succ k2 =>
     have H := HA.out
     clear HA
     simp only [seqs_Part.l0] at H
     by_cases c7 : x21_2 < (l0.length : Int)
     rotate_left
     · rw [if_neg c7] at H
       have c7b0 : decide (x21_2 < (l0.length : Int)) = false := decide_eq_false c7
       clear c7
       obtain rfl := Option.some.inj H
       go_wp2
       go_ret
       exact ⟨by first | rfl | (simp [errW_none, errW_some] <;> rfl) | (simp [*, errW_none, errW_some] <;> rfl), wU HB.out⟩
     rw [if_pos c7] at H
     have c7b0 : decide (x21_2 < (l0.length : Int)) = true := decide_eq_true c7
     clear c7
     by_cases c8 : 0 ≤ x21_2
     rotate_left
     · rw [if_neg c8] at H
       exact absurd H (by simp)
     rw [if_pos c8] at H
     have c8b0 : decide (0 ≤ x21_2) = true := decide_eq_true c8
     clear c8
     by_cases c9 : x21_2 < (l0.length : Int)
     rotate_left
     · rw [if_neg c9] at H
       exact absurd H (by simp)
     rw [if_pos c9] at H
     have c9b0 : decide (x21_2 < (l0.length : Int)) = true := decide_eq_true c9
     clear c9
     by_cases c10 : 0 ≤ a2
     rotate_left
     · rw [if_neg c10] at H
       exact absurd H (by simp)
     rw [if_pos c10] at H
     have c10b0 := eq_true c10
     have c10b1 : decide (0 ≤ a2) = true := decide_eq_true c10
     clear c10
     by_cases c11 : a2 ≤ (l1.length : Int)
     rotate_left
     · rw [if_neg c11] at H
       exact absurd H (by simp)
     rw [if_pos c11] at H
     have c11b0 := eq_true c11
     have c11b1 : decide (a2 ≤ (l1.length : Int)) = true := decide_eq_true c11
     clear c11
     obtain ⟨y183, hy183⟩ : ∃ y_ : List Int, y_ = (l1.drop (a2 : Int).toNat) := ⟨_, rfl⟩
     replace H : ((seqs_fits.f (rd_L2 l0 x21_2) y183).bind fun t187 => (seqs_Part.l0 k2 l1 a2 (mx x7_2 t187) l0 (l0.length : Int) (wrap64 (x21_2 + 1)))) = some r := by first | (rw [hy183]; with_reducible exact H) | (have H2_ := (Option.bind_some _ _).symm.trans H; rw [hy183]; with_reducible exact H2_) | (have H2_ := (Option.bind_some _ _).symm.trans H; with_reducible exact H2_) | with_reducible exact H | (rw [hy183]; exact H) | exact H
     have Ny183 := Aside0.mk hy183
     clear hy183
     replace H := Option.bind_eq_some_iff.mp H
     obtain ⟨t187, A120, H⟩ := H
     replace H : (seqs_Part.l0 k2 l1 a2 (mx x7_2 t187) l0 (l0.length : Int) (wrap64 (x21_2 + 1))) = some r := H
     have A12 := Aside0.mk A120
     clear A120
     obtain ⟨ji13, hji13⟩ : ∃ j_ : Int, (mx x7_2 t187) = j_ := ⟨_, rfl⟩
     replace H : (seqs_Part.l0 k2 l1 a2 ji13 l0 (l0.length : Int) (wrap64 (x21_2 + 1))) = some r := by first | (rw [hji13] at H; exact H) | (simp only [hji13] at H ⊢; exact H)
     (try rw [hji13] at A12)
     have hji13_ : (if x7_2 < t187 then t187 else x7_2) = ji13 := hji13
     have H' := Aside0.mk H; clear H
     have p182 : 0 ≤ (x21_2 : Int) := of_decide_eq_true (by first | (with_reducible assumption) | assumption)
     have q182 : x21_2 < (l0.length : Int) := of_decide_eq_true (by first | (with_reducible assumption) | assumption)
     obtain ⟨ad182, A182_0, c182_0, e182, hx182_0, hl182_0, hi182_0⟩ := at_L2 HR0.out x21_2 p182 q182
     cases e182
     replace hx182_0 := (HB.out.cell (World.block_lt_of_cell? w _ hx182_0)).trans hx182_0
     have HR182_0 := Aside0.mk hi182_0
     have HC182_0 := Aside0.mk hl182_0
     clear hi182_0 hl182_0; replace p182 := eq_true p182; replace q182 := eq_true q182
     have q14 : (a2 : Int) ≤ ((l1.length : Int) : Int) := of_decide_eq_true (by first | (with_reducible assumption) | assumption)
     obtain ⟨i014, hi014, _, hsz14, _⟩ := info_parts info5
     have hroom14 : l1.length ≤ c1 := HC1.out
     have hC14 : Kd.C (Kd.int .u8) _ A1 l1.length l1 := HR1.out
     have q014 : (0 : Int) ≤ (a2 : Int) := of_decide_eq_true (by first | (with_reducible assumption) | assumption)
     have hcut14 := cut_from (P := Try.prog) 24 5 .i64 Try.underlying24 hi014 1 hsz14 A1 l1.length c1 a2 q014 q14
     have hr14 := Kd.C_drop (m := (a2 : Int).toNat) (c := c1) hC14 (by omega) hroom14
     obtain ⟨A14, hA14⟩ : ∃ A1_, A1_ = (if c1 = (a2 : Int).toNat then A1 else (A1 : Option Addr).map (·.add ((a2 : Int).toNat * 1))) := ⟨_, rfl⟩
     obtain ⟨c14, hc14⟩ : ∃ c1_, c1_ = c1 - (a2 : Int).toNat := ⟨_, rfl⟩
     have hy14 : y183.length = l1.length - (a2 : Int).toNat := (by rw [Ny183.out, List.length_drop] <;> omega)
     rw [show (l1).drop (a2 : Int).toNat = y183 from Ny183.out.symm] at hr14
     replace hr14 : Kd.C (Kd.int .u8) _ A14 y183.length y183 := (by rw [hA14]; exact hr14)
     rw [← hy14, ← hA14, ← hc14] at hcut14
     have HR186 := Aside0.mk hr14
     have HC186 := Aside0.mk (show y183.length ≤ c14 from by rw [hy14, hc14]; exact Nat.sub_le_sub_right hroom14 _)
     clear hr14 hC14 hroom14 hi014 hsz14 hc14
     have KY14 := Aside0.mk hy14
     have KA14 := Aside0.mk hA14
     clear hy14 hA14; replace q14 := eq_true q14
     go_wp2_with (first | ((with_reducible refine gate_callee (f := 40) rfl ?_); refine goesL_ (some 30) rfl rfl Try.func40 (by kernel_rfl) rfl #[.slice A182_0 (rd_L2 l0 x21_2).length c182_0, .slice A14 y183.length c14] rfl (by (try simp only [List.map_toArray, List.map_cons, List.map_nil]); first | done | rfl | (simp only [List.length_drop, List.length_take]; rfl)) ?_; (with_reducible refine (seqs_fits.calls _ _ (rd_L2 l0 x21_2) _ _ y183 t187 _ ?side1 ?side2 ?side3 ?side4 A12.out).mono ?_); (case side1 => exact cU (Kd.C_below HR182_0.out HB.out)); (case side2 => exact HC182_0.out); (case side3 => exact cU (Kd.C_below HR186.out HB.out)); (case side4 => exact HC186.out); rintro e w15 ⟨rfl, hb⟩; refine ⟨_, rfl, ?_⟩; have n0_ := Aside0.mk (below_step (wU HB.out) hb); clear HB; have HB := n0_; clear n0_; (try clear hb); (try clear hb2); (try clear hk); (try clear hi)))
     go_roundg k2
     case measure => have := HJ3.out; have := HK2.out; omega
     case rel => exact ⟨(ji13), (wrap64 (x21_2 + 1)), (by first | rfl | (simp; done) | (simp only [← hji13] <;> (first | rfl | simp)) | (simp [*]; done)), (by first | rfl | (simp; done) | (simp [*]; done) | (simp [*, bne]; done)), (by first | exact H' | (subst hji13; exact H')), ⟨by have := HJ3.out; have := HK2.out; omega⟩, ⟨wU HB.out⟩⟩
def term_sym_part.f (k : Nat) (a0_0 : Int) (l0_1 : List (S35)) (a0_2 : Int) (l1 : List Int) (a2 : Int) : Option (Int) := (seqs_Of.f k l0_1).bind fun t189 => ((seqs_Part.f k t189 l1 a2).bind fun t192 => (some t192))
set_option maxHeartbeats 8000000 in
set_option maxRecDepth 100000 in
theorem term_sym_part.calls (k : Nat) (a0_0 : Int) (A0_1 : Option Addr) (c0_1 : Nat) (l0_1 : List (S35)) (a0_2 : Int) (A1 : Option Addr) (c1 : Nat) (l1 : List Int) (a2 : Int) (r : Int) (w : World) (hr0_1 : Kd.C k35 w A0_1 l0_1.length l0_1) (hc0_1 : l0_1.length ≤ c0_1) (hr1 : Kd.C (Kd.int .u8) w A1 l1.length l1) (hc1 : l1.length ≤ c1) (h : term_sym_part.f k a0_0 l0_1 a0_2 l1 a2 = some r) :
 Calls Try.prog 55 #[.agg #[.int .i64 a0_0, .slice A0_1 l0_1.length c0_1, .int .i64 a0_2], .slice A1 l1.length c1, .int .i64 a2] w fun e w' => e = .returned (.int .i64 r) ∧ Below w.heap.size w w' := by
 have hu77 := Try.underlying77
 have HR0_1 := Aside0.mk hr0_1
 have HC0_1 := Aside0.mk hc0_1
 clear hr0_1 hc0_1
 have HR1 := Aside0.mk hr1
 have HC1 := Aside0.mk hc1
 clear hr1 hc1
 have HB := Aside0.mk (Below.refl w.heap.size w)
 have H : ((seqs_Of.f k l0_1).bind fun t189 => ((seqs_Part.f k t189 l1 a2).bind fun t192 => (some t192))) = some r := h
 clear h
 replace H := Option.bind_eq_some_iff.mp H
 obtain ⟨t189, A40, H⟩ := H
 replace H : ((seqs_Part.f k t189 l1 a2).bind fun t192 => (some t192)) = some r := H
 have A4 := Aside0.mk A40
 clear A40
 replace H := Option.bind_eq_some_iff.mp H
 obtain ⟨t192, A50, H⟩ := H
 replace H : (some t192) = some r := H
 have A5 := Aside0.mk A50
 clear A50
 obtain rfl := Option.some.inj H
 go_enter Try.func55, Try.ntmps55
 go_wp2_with (first | ((with_reducible refine gate_dst (N := 3) rfl ?_); refine box_event ?hg (N := 3) ?hd (cs := #[.int .i64 a0_0, .slice A0_1 l0_1.length c0_1, .int .i64 a0_2]) (t := 77) ?hr ?_; (case hd => rfl); (case hg => rfl); (case hr => first | (go_simp; done) | (go_simp; rfl)); intro gb188 hg w6 hbox hb; have n0_ := Aside0.mk (below_step (wU HB.out) hb); have n1_ := Aside0.mk (hbox); have n2_ := Aside0.mk ((by rw [hg]; exact (below_size (wU HB.out)) : w.heap.size ≤ gb188)); have n3_ := Aside0.mk ((by rw [hg]; exact (below_size (wU HB.out)) : w.heap.size ≤ gb188)); clear HB; have HB := n0_; have BK188 := n1_; have GW188 := n2_; have GE188 := n3_; clear n0_ n1_ n2_ n3_; clear hb hbox hg; have hcz7_0 : w6.cell? ⟨gb188, 0, none⟩ = some (.int .i64 a0_0) := (blk_cell BK188.out 0).trans rfl; have hcz7_1 : w6.cell? ⟨gb188, 1, none⟩ = some (.slice A0_1 l0_1.length c0_1) := (blk_cell BK188.out 1).trans rfl; have hcz7_2 : w6.cell? ⟨gb188, 2, none⟩ = some (.int .i64 a0_2) := (blk_cell BK188.out 2).trans rfl; have hfz7_0 := blk_frozen BK188.out 0; have hfz7_1 := blk_frozen BK188.out 1; have hfz7_2 := blk_frozen BK188.out 2) | ((with_reducible refine gate_callee (f := 16) rfl ?_); refine goesL_ (some 9) rfl rfl Try.func16 (by kernel_rfl) rfl #[.slice A0_1 l0_1.length c0_1] rfl (by (try simp only [List.map_toArray, List.map_cons, List.map_nil]); first | done | rfl | (simp only [List.length_drop, List.length_take]; rfl)) ?_; (with_reducible refine (seqs_Of.calls k _ _ l0_1 t189 _ ?side1 ?side2 A4.out).mono ?_); (case side1 => exact cU (Kd.C_below HR0_1.out HB.out)); (case side2 => exact HC0_1.out); rintro e w8 ⟨v190, rfl, ho0, hb⟩; refine ⟨_, rfl, ?_⟩; have n0_ := Aside0.mk (Kd.S_lower ho0 (below_size (wV HB.out GE188.out))); have n1_ := Aside0.mk (blk_below (g := gb188) (o := .cells #[.int .i64 a0_0, .slice A0_1 l0_1.length c0_1, .int .i64 a0_2] 77 (0, 0)) (bU BK188.out) hb); have n2_ := Aside0.mk (below_step (wV HB.out GE188.out) hb); clear BK188; clear HB; have HO191 := n0_; have BK188 := n1_; have HB := n2_; clear n0_ n1_ n2_; (try clear hb); (try clear hb2); (try clear hk); (try clear hi); (try clear ho0); obtain ⟨Ao9, co9, eo9⟩ := Kd.S_slice HO191.out; subst eo9) | ((with_reducible refine gate_callee (f := 19) rfl ?_); refine goesL_ (some 12) rfl rfl Try.func19 (by kernel_rfl) rfl #[.slice Ao9 t189.length co9, .slice A1 l1.length c1, .int .i64 a2] rfl (by (try simp only [List.map_toArray, List.map_cons, List.map_nil]); first | done | rfl | (simp only [List.length_drop, List.length_take]; rfl)) ?_; (with_reducible refine (seqs_Part.calls k _ _ t189 _ _ l1 a2 t192 _ ?side1 ?side2 ?side3 ?side4 A5.out).mono ?_); (case side1 => exact cU (Kd.S_reads' HO191.out).2.2); (case side2 => exact (Kd.S_reads' HO191.out).2.1); (case side3 => exact cU (Kd.C_below HR1.out HB.out)); (case side4 => exact HC1.out); rintro e w10 ⟨rfl, hb⟩; refine ⟨_, rfl, ?_⟩; have n0_ := Aside0.mk (Kd.S_below (by (with_reducible repeat (first | apply Kd.S_alloc | apply Kd.S_drewN | apply Kd.S_drew)); exact HO191.out) hb); have n1_ := Aside0.mk (blk_below (g := gb188) (o := .cells #[.int .i64 a0_0, .slice A0_1 l0_1.length c0_1, .int .i64 a0_2] 77 (0, 0)) (bU BK188.out) hb); have n2_ := Aside0.mk (below_step (wV HB.out GE188.out) hb); clear HO191; clear BK188; clear HB; have HO191 := n0_; have BK188 := n1_; have HB := n2_; clear n0_ n1_ n2_; (try clear hb); (try clear hb2); (try clear hk); (try clear hi)))
 go_ret
 exact ⟨by first | rfl | (simp [errW_none, errW_some] <;> rfl) | (simp [*, errW_none, errW_some] <;> rfl), wV HB.out GE188.out⟩
end Go.Proofs.Ytcdahnkdongmdaa.All
