/- Texts of the claim TermTells, merged, without what it does not use. -/
import Derived.Test.YtcdahnkdongmdaaZTermTellsX1
import Derived.Test.YtcdahnkdongmdaaZTermTellsX19
namespace Go.Proofs.Ytcdahnkdongmdaa.All
open Go.RowKit Go.Proofs.YtcdahnkdongmdaaW.PrintWords Go.Proofs.YtcdahnkdongmdaaW.PrintLast Go.Proofs.YtcdahnkdongmdaaW.PrintMore
attribute [local go_sem] max2_int min2_int max_two min_two
set_option linter.unusedVariables false
set_option linter.unusedSimpArgs false
def exegeteref02_Norm.f (k : Nat) (l0 : List (S35)) : Option ((List (S35))) := (exegeteref02_of.f k l0 ([] : List (S35)) 0 (-1)).bind fun t303 => (some t303)
set_option maxHeartbeats 8000000 in
set_option maxRecDepth 100000 in
theorem exegeteref02_Norm.calls (k : Nat) (A0 : Option Addr) (c0 : Nat) (l0 : List (S35)) (r : List (S35)) (w : World) (hr0 : Kd.C k35 w A0 l0.length l0) (hc0 : l0.length ≤ c0) (h : exegeteref02_Norm.f k l0 = some r) :
 Calls Try.prog 67 #[.slice A0 l0.length c0] w fun e w' => ∃ v0_ : Value, e = .returned (v0_) ∧ Kd.R k35 35 w' w.heap.size (fun _ => True) v0_ r ∧ Below w.heap.size w w' := by
 have HR0 := Aside0.mk hr0
 have HC0 := Aside0.mk hc0
 clear hr0 hc0
 have HB := Aside0.mk (Below.refl w.heap.size w)
 have H : ((exegeteref02_of.f k l0 ([] : List (S35)) 0 (-1)).bind fun t303 => (some t303)) = some r := h
 clear h
 replace H := Option.bind_eq_some_iff.mp H
 obtain ⟨t303, A20, H⟩ := H
 replace H : (some t303) = some r := H
 have A2 := Aside0.mk A20
 clear A20
 obtain rfl := Option.some.inj H
 go_enter Try.func67, Try.ntmps67
 go_wp2_with (first | ((with_reducible refine gate_callee (f := 73) rfl ?_); refine goesL_ (some 4) rfl rfl Try.func73 (by kernel_rfl) rfl #[.slice A0 l0.length c0, .slice none 0 0, .int .i64 0, .int .i64 (-1)] rfl (by (try simp only [List.map_toArray, List.map_cons, List.map_nil]); first | done | rfl | (simp only [List.length_drop, List.length_take]; rfl)) ?_; (refine (exegeteref02_of.calls k _ _ l0 _ _ ([] : List (S35)) 0 (-1) t303 _ ?side1 ?side2 ?side3 ?side4 A2.out).mono ?_); (case side1 => exact cU HR0.out); (case side2 => exact HC0.out); (case side3 => exact Kd.C_nil _ _); (case side4 => exact Nat.le_refl _); rintro e w3 ⟨v304, rfl, ho0, hb⟩; refine ⟨_, rfl, ?_⟩; have n0_ := Aside0.mk (Kd.R_lower ho0 (below_size (wU HB.out))); have n1_ := Aside0.mk (below_step (wU HB.out) hb); clear HB; have HO305 := n0_; have HB := n1_; clear n0_ n1_; (try clear hb); (try clear hb2); (try clear hk); (try clear hi); (try clear ho0)))
 go_ret
 exact ⟨_, by first | rfl | (simp [errW_none, errW_some] <;> rfl) | (simp [*, errW_none, errW_some] <;> rfl), rU HO305.out, wU HB.out⟩
mutual
def exegeteref03_split.j0 : Nat → Int → List (S35) → Int → Int → Int → Option ((List (S35)))
  | 0, _, _, _, _, _ => none
  | k + 1, x1, x5, x6, x307000, x307001 => if x1 = 0 then (none) else (if (Int.tmod x307001 x1) = (wrap64 (x1 - 1)) then (exegeteref03_split.j1 k x5 x6 x307001 x307000 x307001) else (exegeteref03_split.j1 k x5 x6 (wrap64 ((wrap64 ((wrap64 (Int.tdiv x307001 x1)) * x1)) - 1)) x307000 x307001))
def exegeteref03_split.j1 : Nat → List (S35) → Int → Int → Int → Int → Option ((List (S35)))
  | 0, _, _, _, _, _ => none
  | k + 1, x5, x6, x8, x307000, x307001 => if x6 ≤ x8 then (if x5.length < 8796093022208 then ((some (x5 ++ [(⟨x6, x8⟩ : S35)] : List (S35))).bind fun y313 => (if x8 < x307001 then (if y313.length < 8796093022208 then (some (y313 ++ [(⟨wrap64 (x8 + 1), x307001⟩ : S35)])) else (none)) else (some y313))) else (none)) else (if x8 < x307001 then (if x5.length < 8796093022208 then (some (x5 ++ [(⟨wrap64 (x8 + 1), x307001⟩ : S35)])) else (none)) else (some x5))
end
def exegeteref03_split.f (k : Nat) (a0_0 : Int) (a0_1 : Int) (a1 : Int) : Option ((List (S35))) := if a1 = 0 then (none) else (if (wrap64 (Int.tdiv a0_0 a1)) = (wrap64 (Int.tdiv a0_1 a1)) then (if ([] : List (S35)).length < 8796093022208 then (some (([] : List (S35)) ++ [(⟨a0_0, a0_1⟩ : S35)])) else (none)) else (if (Int.tmod a0_0 a1) = 0 then (exegeteref03_split.j0 k a1 ([] : List (S35)) a0_0 a0_0 a0_1) else (if ([] : List (S35)).length < 8796093022208 then (exegeteref03_split.j0 k a1 (([] : List (S35)) ++ [(⟨a0_0, wrap64 ((wrap64 ((wrap64 ((wrap64 (Int.tdiv a0_0 a1)) * a1)) + a1)) - 1)⟩ : S35)]) (wrap64 ((wrap64 ((wrap64 ((wrap64 ((wrap64 (Int.tdiv a0_0 a1)) * a1)) + a1)) - 1)) + 1)) a0_0 a0_1) else (none))))
set_option maxHeartbeats 8000000 in
set_option maxRecDepth 100000 in
theorem exegeteref03_split.calls (k : Nat) (a0_0 : Int) (a0_1 : Int) (a1 : Int) (r : List (S35)) (w : World) (h : exegeteref03_split.f k a0_0 a0_1 a1 = some r) :
 Calls Try.prog 68 #[.agg #[.int .i64 a0_0, .int .i64 a0_1], .int .i64 a1] w fun e w' => ∃ v0_ : Value, e = .returned (v0_) ∧ Kd.R k35 35 w' w.heap.size (fun _ => True) v0_ r ∧ Below w.heap.size w w' := by
 have hu35 := Try.underlying35
 have HB := Aside0.mk (Below.refl w.heap.size w)
 have H : (if a1 = 0 then (none) else (if (wrap64 (Int.tdiv a0_0 a1)) = (wrap64 (Int.tdiv a0_1 a1)) then (if ([] : List (S35)).length < 8796093022208 then (some (([] : List (S35)) ++ [(⟨a0_0, a0_1⟩ : S35)])) else (none)) else (if (Int.tmod a0_0 a1) = 0 then (exegeteref03_split.j0 k a1 ([] : List (S35)) a0_0 a0_0 a0_1) else (if ([] : List (S35)).length < 8796093022208 then (exegeteref03_split.j0 k a1 (([] : List (S35)) ++ [(⟨a0_0, wrap64 ((wrap64 ((wrap64 ((wrap64 (Int.tdiv a0_0 a1)) * a1)) + a1)) - 1)⟩ : S35)]) (wrap64 ((wrap64 ((wrap64 ((wrap64 ((wrap64 (Int.tdiv a0_0 a1)) * a1)) + a1)) - 1)) + 1)) a0_0 a0_1) else (none))))) = some r := h
 clear h
 by_cases c3 : a1 = 0
 · rw [if_pos c3] at H
   exact absurd H (by simp)
 rw [if_neg c3] at H
 have c3b0 : (a1 == 0) = false := beq_eq_false_iff_ne.mpr c3
 have c3b1 : (a1 != 0) = true := bne_iff_ne.mpr c3
 by_cases c4 : (wrap64 (Int.tdiv a0_0 a1)) = (wrap64 (Int.tdiv a0_1 a1))
 · rw [if_pos c4] at H
   have c4b0 : ((wrap64 (Int.tdiv a0_0 a1)) == (wrap64 (Int.tdiv a0_1 a1))) = true := beq_iff_eq.mpr c4
   have c4b1 : ((wrap64 (Int.tdiv a0_0 a1)) != (wrap64 (Int.tdiv a0_1 a1))) = false := bne_eq_false_iff_eq.mpr c4
   clear c4
   by_cases c5 : ([] : List (S35)).length < 8796093022208
   · rw [if_pos c5] at H
     have LMc5 := Aside0.mk c5
     clear c5
     obtain ⟨y307, hy307⟩ : ∃ y_ : List (S35), y_ = (([] : List (S35)) ++ [(⟨a0_0, a0_1⟩ : S35)]) := ⟨_, rfl⟩
     replace H : (some y307) = some r := by first | (rw [hy307]; with_reducible exact H) | (have H2_ := (Option.bind_some _ _).symm.trans H; rw [hy307]; with_reducible exact H2_) | (have H2_ := (Option.bind_some _ _).symm.trans H; with_reducible exact H2_) | with_reducible exact H | (rw [hy307]; exact H) | exact H
     have Ny307 := Aside0.mk hy307
     clear hy307
     obtain rfl := Option.some.inj H
     go_enter Try.func68, Try.ntmps68
     go_wp2_with (first | ((with_reducible refine gate_dst (N := 2) rfl ?_); refine box_event ?hg (N := 2) ?hd (cs := #[.int .i64 a0_0, .int .i64 a0_1]) (t := 35) ?hr ?_; (case hd => rfl); (case hg => rfl); (case hr => first | (go_simp; done) | (go_simp; rfl)); intro gb306 hg w6 hbox hb; have n0_ := Aside0.mk (below_step (wU HB.out) hb); have n1_ := Aside0.mk (hbox); have n2_ := Aside0.mk ((by rw [hg]; exact (below_size (wU HB.out)) : w.heap.size ≤ gb306)); have n3_ := Aside0.mk ((by rw [hg]; exact (below_size (wU HB.out)) : w.heap.size ≤ gb306)); clear HB; have HB := n0_; have BK306 := n1_; have GW306 := n2_; have GE306 := n3_; clear n0_ n1_ n2_ n3_; clear hb hbox hg; have hcz7_0 : w6.cell? ⟨gb306, 0, none⟩ = some (.int .i64 a0_0) := (blk_cell BK306.out 0).trans rfl; have hcz7_1 : w6.cell? ⟨gb306, 1, none⟩ = some (.int .i64 a0_1) := (blk_cell BK306.out 1).trans rfl; have hfz7_0 := blk_frozen BK306.out 0; have hfz7_1 := blk_frozen BK306.out 1) | ((with_reducible refine gate_builtin (b := .append) (xs := #[.tmp 19, .tmp 21]) rfl ?_); at_builtin; refine Kd.R_append k35 (w0 := w) w.heap.size rfl (.tmp 19) (.tmp 21) 22 35 (.agg #[(.int .i64 0), (.int .i64 0)]) 16 rfl Try.underlying22 info35 rfl (by decide) (by omega) (.slice none 0 0) ([] : List (S35)) (⟨a0_0, a0_1⟩ : S35) [.int .i64 a0_0, .int .i64 a0_1] (fun k_ => k_ ≠ gb306) (fun _ => False) rfl rfl ?aP (fun _ hk => hk.elim) ?aF ?aO ?aB ?aS ?aL ?_; (case aP => exact k35_mkM _ _ _ (⟨a0_0, a0_1⟩ : S35)); (case aB => exact (wV HB.out GE306.out)); (case aF => exact (fun k_ hk => Kd.freshB (g := gb306) (o := .cells #[.int .i64 a0_0, .int .i64 a0_1] 35 (0, 0)) (bU BK306.out) k_ hk)); (case aO => exact ((Kd.R_nil _ _ _ _ (fun k_ => k_ ≠ gb306)))); (case aS => exact (below_size (wV HB.out GE306.out))); (case aL => have := LMc5.out; omega); intro v308 w8 ho hb hg hat; rw [← Ny307.out] at ho; have n0_ := Aside0.mk (blk_grown (g := gb306) (o := .cells #[.int .i64 a0_0, .int .i64 a0_1] 35 (0, 0)) (bU BK306.out) hg (by simp [Value.ownBlock])); have n1_ := Aside0.mk (hb); have n2_ := Aside0.mk (ho); clear BK306; clear HB; have BK306 := n0_; have HB := n1_; have HO309 := n2_; clear n0_ n1_ n2_; clear ho hb hg hat))
     repeat (go_quiet (first | ((with_reducible refine gate_dst (N := 2) rfl ?_); refine box_event ?hg (N := 2) ?hd (cs := #[.int .i64 a0_0, .int .i64 a0_1]) (t := 35) ?hr ?_; (case hd => rfl); (case hg => rfl); (case hr => first | (go_simp; done) | (go_simp; rfl)); intro gb306 hg w6 hbox hb; have n0_ := Aside0.mk (below_step (wU HB.out) hb); have n1_ := Aside0.mk (hbox); have n2_ := Aside0.mk ((by rw [hg]; exact (below_size (wU HB.out)) : w.heap.size ≤ gb306)); have n3_ := Aside0.mk ((by rw [hg]; exact (below_size (wU HB.out)) : w.heap.size ≤ gb306)); clear HB; have HB := n0_; have BK306 := n1_; have GW306 := n2_; have GE306 := n3_; clear n0_ n1_ n2_ n3_; clear hb hbox hg; have hcz7_0 : w6.cell? ⟨gb306, 0, none⟩ = some (.int .i64 a0_0) := (blk_cell BK306.out 0).trans rfl; have hcz7_1 : w6.cell? ⟨gb306, 1, none⟩ = some (.int .i64 a0_1) := (blk_cell BK306.out 1).trans rfl; have hfz7_0 := blk_frozen BK306.out 0; have hfz7_1 := blk_frozen BK306.out 1) | ((with_reducible refine gate_builtin (b := .append) (xs := #[.tmp 19, .tmp 21]) rfl ?_); at_builtin; refine Kd.R_append k35 (w0 := w) w.heap.size rfl (.tmp 19) (.tmp 21) 22 35 (.agg #[(.int .i64 0), (.int .i64 0)]) 16 rfl Try.underlying22 info35 rfl (by decide) (by omega) (.slice none 0 0) ([] : List (S35)) (⟨a0_0, a0_1⟩ : S35) [.int .i64 a0_0, .int .i64 a0_1] (fun k_ => k_ ≠ gb306) (fun _ => False) rfl rfl ?aP (fun _ hk => hk.elim) ?aF ?aO ?aB ?aS ?aL ?_; (case aP => exact k35_mkM _ _ _ (⟨a0_0, a0_1⟩ : S35)); (case aB => exact (wV HB.out GE306.out)); (case aF => exact (fun k_ hk => Kd.freshB (g := gb306) (o := .cells #[.int .i64 a0_0, .int .i64 a0_1] 35 (0, 0)) (bU BK306.out) k_ hk)); (case aO => exact ((Kd.R_nil _ _ _ _ (fun k_ => k_ ≠ gb306)))); (case aS => exact (below_size (wV HB.out GE306.out))); (case aL => have := LMc5.out; omega); intro v308 w8 ho hb hg hat; rw [← Ny307.out] at ho; have n0_ := Aside0.mk (blk_grown (g := gb306) (o := .cells #[.int .i64 a0_0, .int .i64 a0_1] 35 (0, 0)) (bU BK306.out) hg (by simp [Value.ownBlock])); have n1_ := Aside0.mk (hb); have n2_ := Aside0.mk (ho); clear BK306; clear HB; have BK306 := n0_; have HB := n1_; have HO309 := n2_; clear n0_ n1_ n2_; clear ho hb hg hat)); try go_wp2_with (first | ((with_reducible refine gate_dst (N := 2) rfl ?_); refine box_event ?hg (N := 2) ?hd (cs := #[.int .i64 a0_0, .int .i64 a0_1]) (t := 35) ?hr ?_; (case hd => rfl); (case hg => rfl); (case hr => first | (go_simp; done) | (go_simp; rfl)); intro gb306 hg w6 hbox hb; have n0_ := Aside0.mk (below_step (wU HB.out) hb); have n1_ := Aside0.mk (hbox); have n2_ := Aside0.mk ((by rw [hg]; exact (below_size (wU HB.out)) : w.heap.size ≤ gb306)); have n3_ := Aside0.mk ((by rw [hg]; exact (below_size (wU HB.out)) : w.heap.size ≤ gb306)); clear HB; have HB := n0_; have BK306 := n1_; have GW306 := n2_; have GE306 := n3_; clear n0_ n1_ n2_ n3_; clear hb hbox hg; have hcz7_0 : w6.cell? ⟨gb306, 0, none⟩ = some (.int .i64 a0_0) := (blk_cell BK306.out 0).trans rfl; have hcz7_1 : w6.cell? ⟨gb306, 1, none⟩ = some (.int .i64 a0_1) := (blk_cell BK306.out 1).trans rfl; have hfz7_0 := blk_frozen BK306.out 0; have hfz7_1 := blk_frozen BK306.out 1) | ((with_reducible refine gate_builtin (b := .append) (xs := #[.tmp 19, .tmp 21]) rfl ?_); at_builtin; refine Kd.R_append k35 (w0 := w) w.heap.size rfl (.tmp 19) (.tmp 21) 22 35 (.agg #[(.int .i64 0), (.int .i64 0)]) 16 rfl Try.underlying22 info35 rfl (by decide) (by omega) (.slice none 0 0) ([] : List (S35)) (⟨a0_0, a0_1⟩ : S35) [.int .i64 a0_0, .int .i64 a0_1] (fun k_ => k_ ≠ gb306) (fun _ => False) rfl rfl ?aP (fun _ hk => hk.elim) ?aF ?aO ?aB ?aS ?aL ?_; (case aP => exact k35_mkM _ _ _ (⟨a0_0, a0_1⟩ : S35)); (case aB => exact (wV HB.out GE306.out)); (case aF => exact (fun k_ hk => Kd.freshB (g := gb306) (o := .cells #[.int .i64 a0_0, .int .i64 a0_1] 35 (0, 0)) (bU BK306.out) k_ hk)); (case aO => exact ((Kd.R_nil _ _ _ _ (fun k_ => k_ ≠ gb306)))); (case aS => exact (below_size (wV HB.out GE306.out))); (case aL => have := LMc5.out; omega); intro v308 w8 ho hb hg hat; rw [← Ny307.out] at ho; have n0_ := Aside0.mk (blk_grown (g := gb306) (o := .cells #[.int .i64 a0_0, .int .i64 a0_1] 35 (0, 0)) (bU BK306.out) hg (by simp [Value.ownBlock])); have n1_ := Aside0.mk (hb); have n2_ := Aside0.mk (ho); clear BK306; clear HB; have BK306 := n0_; have HB := n1_; have HO309 := n2_; clear n0_ n1_ n2_; clear ho hb hg hat)))
     go_ret
     exact ⟨_, by first | rfl | (simp [errW_none, errW_some] <;> rfl) | (simp [*, errW_none, errW_some] <;> rfl), by (with_reducible repeat (first | apply Kd.R_alloc | apply Kd.R_drewN | apply Kd.R_drew)); exact Kd.R_mono HO309.out (fun _ hk => trivial), wV HB.out GE306.out⟩
   rw [if_neg c5] at H
   exact absurd H (by simp)
 rw [if_neg c4] at H
 have c4b0 : ((wrap64 (Int.tdiv a0_0 a1)) == (wrap64 (Int.tdiv a0_1 a1))) = false := beq_eq_false_iff_ne.mpr c4
 have c4b1 : ((wrap64 (Int.tdiv a0_0 a1)) != (wrap64 (Int.tdiv a0_1 a1))) = true := bne_iff_ne.mpr c4
 have HC9 := Aside0.mk H; clear H
 go_enter Try.func68, Try.ntmps68
 go_upto_if 26 with (first | ((with_reducible refine gate_dst (N := 2) rfl ?_); refine box_event ?hg (N := 2) ?hd (cs := #[.int .i64 a0_0, .int .i64 a0_1]) (t := 35) ?hr ?_; (case hd => rfl); (case hg => rfl); (case hr => first | (go_simp; done) | (go_simp; rfl)); intro gb306 hg w10 hbox hb; have n0_ := Aside0.mk (below_step (wU HB.out) hb); have n1_ := Aside0.mk (hbox); have n2_ := Aside0.mk ((by rw [hg]; exact (below_size (wU HB.out)) : w.heap.size ≤ gb306)); have n3_ := Aside0.mk ((by rw [hg]; exact (below_size (wU HB.out)) : w.heap.size ≤ gb306)); clear HB; have HB := n0_; have BK306 := n1_; have GW306 := n2_; have GE306 := n3_; clear n0_ n1_ n2_ n3_; clear hb hbox hg; have hcz11_0 : w10.cell? ⟨gb306, 0, none⟩ = some (.int .i64 a0_0) := (blk_cell BK306.out 0).trans rfl; have hcz11_1 : w10.cell? ⟨gb306, 1, none⟩ = some (.int .i64 a0_1) := (blk_cell BK306.out 1).trans rfl; have hfz11_0 := blk_frozen BK306.out 0; have hfz11_1 := blk_frozen BK306.out 1))
 repeat (go_quiet (first | ((with_reducible refine gate_dst (N := 2) rfl ?_); refine box_event ?hg (N := 2) ?hd (cs := #[.int .i64 a0_0, .int .i64 a0_1]) (t := 35) ?hr ?_; (case hd => rfl); (case hg => rfl); (case hr => first | (go_simp; done) | (go_simp; rfl)); intro gb306 hg w10 hbox hb; have n0_ := Aside0.mk (below_step (wU HB.out) hb); have n1_ := Aside0.mk (hbox); have n2_ := Aside0.mk ((by rw [hg]; exact (below_size (wU HB.out)) : w.heap.size ≤ gb306)); have n3_ := Aside0.mk ((by rw [hg]; exact (below_size (wU HB.out)) : w.heap.size ≤ gb306)); clear HB; have HB := n0_; have BK306 := n1_; have GW306 := n2_; have GE306 := n3_; clear n0_ n1_ n2_ n3_; clear hb hbox hg; have hcz11_0 : w10.cell? ⟨gb306, 0, none⟩ = some (.int .i64 a0_0) := (blk_cell BK306.out 0).trans rfl; have hcz11_1 : w10.cell? ⟨gb306, 1, none⟩ = some (.int .i64 a0_1) := (blk_cell BK306.out 1).trans rfl; have hfz11_0 := blk_frozen BK306.out 0; have hfz11_1 := blk_frozen BK306.out 1)); go_upto_if 26 with (first | ((with_reducible refine gate_dst (N := 2) rfl ?_); refine box_event ?hg (N := 2) ?hd (cs := #[.int .i64 a0_0, .int .i64 a0_1]) (t := 35) ?hr ?_; (case hd => rfl); (case hg => rfl); (case hr => first | (go_simp; done) | (go_simp; rfl)); intro gb306 hg w10 hbox hb; have n0_ := Aside0.mk (below_step (wU HB.out) hb); have n1_ := Aside0.mk (hbox); have n2_ := Aside0.mk ((by rw [hg]; exact (below_size (wU HB.out)) : w.heap.size ≤ gb306)); have n3_ := Aside0.mk ((by rw [hg]; exact (below_size (wU HB.out)) : w.heap.size ≤ gb306)); clear HB; have HB := n0_; have BK306 := n1_; have GW306 := n2_; have GE306 := n3_; clear n0_ n1_ n2_ n3_; clear hb hbox hg; have hcz11_0 : w10.cell? ⟨gb306, 0, none⟩ = some (.int .i64 a0_0) := (blk_cell BK306.out 0).trans rfl; have hcz11_1 : w10.cell? ⟨gb306, 1, none⟩ = some (.int .i64 a0_1) := (blk_cell BK306.out 1).trans rfl; have hfz11_0 := blk_frozen BK306.out 0; have hfz11_1 := blk_frozen BK306.out 1)))
 (try simp only [Act.put, qA, qB, qC])
 go_cut [5, 6] (fun v5 v6 wc => ∃ (kq : Nat) (x5_8 : List (S35)) (x6_8 : Int), v6 = .int .i64 x6_8 ∧ Aside0 (exegeteref03_split.j0 kq a1 x5_8 x6_8 a0_0 a0_1 = some r) ∧ Aside0 (kq ≤ k) ∧ Aside0 (Kd.R k35 35 wc w.heap.size (fun k_ => k_ ≠ gb306) v5 x5_8) ∧ Aside0 (wc.heap[gb306]? = some (.cells #[.int .i64 a0_0, .int .i64 a0_1] 35 (0, 0))) ∧ Aside0 (Below w.heap.size w wc))
 case first =>
  have H := HC9.out
  clear HC9
  by_cases c12 : (Int.tmod a0_0 a1) = 0
  · rw [if_pos c12] at H
    have c12b0 : ((Int.tmod a0_0 a1) == 0) = true := beq_iff_eq.mpr c12
    have c12b1 : ((Int.tmod a0_0 a1) != 0) = false := bne_eq_false_iff_eq.mpr c12
    clear c12
    (first | rw [c12b0] | (simp only [i64_w, i32_w]; rw [c12b0]) | skip)
    have H' := Aside0.mk H; clear H
    go_wp2
    repeat (go_quiet (fail); try go_wp2)
    go_meet
    case rel => exact ⟨_, (([] : List (S35))), (a0_0), (by first | rfl | (simp; done) | (simp [*]; done) | (simp [*, bne]; done)), H', ⟨by first | omega | exact Nat.le_refl _⟩, ⟨by first | exact Kd.R_nil _ _ _ _ _ | exact Kd.N_nil _ _ _ _ _ | exact Kd.V_nil _ _ _ _ _ | exact Kd.Q_nil _ _ _ _ _ | exact Kd.S_nil _ _ _ _ _⟩, ⟨bU BK306.out⟩, ⟨wV HB.out GE306.out⟩⟩
  rw [if_neg c12] at H
  have c12b0 : ((Int.tmod a0_0 a1) == 0) = false := beq_eq_false_iff_ne.mpr c12
  have c12b1 : ((Int.tmod a0_0 a1) != 0) = true := bne_iff_ne.mpr c12
  (first | rw [c12b0] | (simp only [i64_w, i32_w]; rw [c12b0]) | skip)
  by_cases c13 : ([] : List (S35)).length < 8796093022208
  · rw [if_pos c13] at H
    have LMc13 := Aside0.mk c13
    clear c13
    obtain ⟨y310, hy310⟩ : ∃ y_ : List (S35), y_ = (([] : List (S35)) ++ [(⟨a0_0, wrap64 ((wrap64 ((wrap64 ((wrap64 (Int.tdiv a0_0 a1)) * a1)) + a1)) - 1)⟩ : S35)]) := ⟨_, rfl⟩
    replace H : (exegeteref03_split.j0 k a1 y310 (wrap64 ((wrap64 ((wrap64 ((wrap64 ((wrap64 (Int.tdiv a0_0 a1)) * a1)) + a1)) - 1)) + 1)) a0_0 a0_1) = some r := by first | (rw [hy310]; with_reducible exact H) | (have H2_ := (Option.bind_some _ _).symm.trans H; rw [hy310]; with_reducible exact H2_) | (have H2_ := (Option.bind_some _ _).symm.trans H; with_reducible exact H2_) | with_reducible exact H | (rw [hy310]; exact H) | exact H
    have Ny310 := Aside0.mk hy310
    clear hy310; have H' := Aside0.mk H; clear H
    go_wp2_with (first | ((with_reducible refine gate_builtin (b := .append) (xs := #[.tmp 35, .tmp 39]) rfl ?_); at_builtin; refine Kd.R_append k35 (w0 := w) w.heap.size rfl (.tmp 35) (.tmp 39) 22 35 (.agg #[(.int .i64 0), (.int .i64 0)]) 16 rfl Try.underlying22 info35 rfl (by decide) (by omega) (.slice none 0 0) ([] : List (S35)) (⟨a0_0, wrap64 ((wrap64 ((wrap64 ((wrap64 (Int.tdiv a0_0 a1)) * a1)) + a1)) - 1)⟩ : S35) [.int .i64 a0_0, .int .i64 (wrap64 ((wrap64 ((wrap64 ((wrap64 (Int.tdiv a0_0 a1)) * a1)) + a1)) - 1))] (fun k_ => k_ ≠ gb306) (fun _ => False) rfl rfl ?aP (fun _ hk => hk.elim) ?aF ?aO ?aB ?aS ?aL ?_; (case aP => exact k35_mkM _ _ _ (⟨a0_0, wrap64 ((wrap64 ((wrap64 ((wrap64 (Int.tdiv a0_0 a1)) * a1)) + a1)) - 1)⟩ : S35)); (case aB => exact (wV HB.out GE306.out)); (case aF => exact (fun k_ hk => Kd.freshB (g := gb306) (o := .cells #[.int .i64 a0_0, .int .i64 a0_1] 35 (0, 0)) (bU BK306.out) k_ hk)); (case aO => exact ((Kd.R_nil _ _ _ _ (fun k_ => k_ ≠ gb306)))); (case aS => exact (below_size (wV HB.out GE306.out))); (case aL => have := LMc13.out; omega); intro v311 w14 ho hb hg hat; rw [← Ny310.out] at ho; have n0_ := Aside0.mk (blk_grown (g := gb306) (o := .cells #[.int .i64 a0_0, .int .i64 a0_1] 35 (0, 0)) (bU BK306.out) hg (by simp [Value.ownBlock])); have n1_ := Aside0.mk (hb); have n2_ := Aside0.mk (ho); clear BK306; clear HB; have BK306 := n0_; have HB := n1_; have HO312 := n2_; clear n0_ n1_ n2_; clear ho hb hg hat))
    repeat (go_quiet (first | ((with_reducible refine gate_builtin (b := .append) (xs := #[.tmp 35, .tmp 39]) rfl ?_); at_builtin; refine Kd.R_append k35 (w0 := w) w.heap.size rfl (.tmp 35) (.tmp 39) 22 35 (.agg #[(.int .i64 0), (.int .i64 0)]) 16 rfl Try.underlying22 info35 rfl (by decide) (by omega) (.slice none 0 0) ([] : List (S35)) (⟨a0_0, wrap64 ((wrap64 ((wrap64 ((wrap64 (Int.tdiv a0_0 a1)) * a1)) + a1)) - 1)⟩ : S35) [.int .i64 a0_0, .int .i64 (wrap64 ((wrap64 ((wrap64 ((wrap64 (Int.tdiv a0_0 a1)) * a1)) + a1)) - 1))] (fun k_ => k_ ≠ gb306) (fun _ => False) rfl rfl ?aP (fun _ hk => hk.elim) ?aF ?aO ?aB ?aS ?aL ?_; (case aP => exact k35_mkM _ _ _ (⟨a0_0, wrap64 ((wrap64 ((wrap64 ((wrap64 (Int.tdiv a0_0 a1)) * a1)) + a1)) - 1)⟩ : S35)); (case aB => exact (wV HB.out GE306.out)); (case aF => exact (fun k_ hk => Kd.freshB (g := gb306) (o := .cells #[.int .i64 a0_0, .int .i64 a0_1] 35 (0, 0)) (bU BK306.out) k_ hk)); (case aO => exact ((Kd.R_nil _ _ _ _ (fun k_ => k_ ≠ gb306)))); (case aS => exact (below_size (wV HB.out GE306.out))); (case aL => have := LMc13.out; omega); intro v311 w14 ho hb hg hat; rw [← Ny310.out] at ho; have n0_ := Aside0.mk (blk_grown (g := gb306) (o := .cells #[.int .i64 a0_0, .int .i64 a0_1] 35 (0, 0)) (bU BK306.out) hg (by simp [Value.ownBlock])); have n1_ := Aside0.mk (hb); have n2_ := Aside0.mk (ho); clear BK306; clear HB; have BK306 := n0_; have HB := n1_; have HO312 := n2_; clear n0_ n1_ n2_; clear ho hb hg hat)); try go_wp2_with (first | ((with_reducible refine gate_builtin (b := .append) (xs := #[.tmp 35, .tmp 39]) rfl ?_); at_builtin; refine Kd.R_append k35 (w0 := w) w.heap.size rfl (.tmp 35) (.tmp 39) 22 35 (.agg #[(.int .i64 0), (.int .i64 0)]) 16 rfl Try.underlying22 info35 rfl (by decide) (by omega) (.slice none 0 0) ([] : List (S35)) (⟨a0_0, wrap64 ((wrap64 ((wrap64 ((wrap64 (Int.tdiv a0_0 a1)) * a1)) + a1)) - 1)⟩ : S35) [.int .i64 a0_0, .int .i64 (wrap64 ((wrap64 ((wrap64 ((wrap64 (Int.tdiv a0_0 a1)) * a1)) + a1)) - 1))] (fun k_ => k_ ≠ gb306) (fun _ => False) rfl rfl ?aP (fun _ hk => hk.elim) ?aF ?aO ?aB ?aS ?aL ?_; (case aP => exact k35_mkM _ _ _ (⟨a0_0, wrap64 ((wrap64 ((wrap64 ((wrap64 (Int.tdiv a0_0 a1)) * a1)) + a1)) - 1)⟩ : S35)); (case aB => exact (wV HB.out GE306.out)); (case aF => exact (fun k_ hk => Kd.freshB (g := gb306) (o := .cells #[.int .i64 a0_0, .int .i64 a0_1] 35 (0, 0)) (bU BK306.out) k_ hk)); (case aO => exact ((Kd.R_nil _ _ _ _ (fun k_ => k_ ≠ gb306)))); (case aS => exact (below_size (wV HB.out GE306.out))); (case aL => have := LMc13.out; omega); intro v311 w14 ho hb hg hat; rw [← Ny310.out] at ho; have n0_ := Aside0.mk (blk_grown (g := gb306) (o := .cells #[.int .i64 a0_0, .int .i64 a0_1] 35 (0, 0)) (bU BK306.out) hg (by simp [Value.ownBlock])); have n1_ := Aside0.mk (hb); have n2_ := Aside0.mk (ho); clear BK306; clear HB; have BK306 := n0_; have HB := n1_; have HO312 := n2_; clear n0_ n1_ n2_; clear ho hb hg hat)))
    go_meet
    case rel => exact ⟨_, (y310), (wrap64 ((wrap64 ((wrap64 ((wrap64 ((wrap64 (Int.tdiv a0_0 a1)) * a1)) + a1)) - 1)) + 1)), (by first | rfl | (simp; done) | (simp [*]; done) | (simp [*, bne]; done)), H', ⟨by first | omega | exact Nat.le_refl _⟩, ⟨rU HO312.out⟩, ⟨bU BK306.out⟩, ⟨wV HB.out GE306.out⟩⟩
  rw [if_neg c13] at H
  exact absurd H (by simp)
 case rest =>
  clear HC9; (try clear c1); (try clear p2); (try clear c3); (try clear c3b0); (try clear c3b1); (try clear c4); (try clear c4b0); (try clear c4b1); (try clear c5); (try clear c6); (try clear p6); (try clear c12); (try clear c12b0); (try clear c12b1); (try clear c13); (try clear hcz11_0); (try clear hcz11_1); (try clear hcz7_0); (try clear hcz7_1); (try clear hfz11_0); (try clear hfz11_1); (try clear hfz7_0)
  (try clear hfz7_1)
  obtain ⟨kq, x5_8, x6_8, rfl, HA, HJ8, HO_5, BK306, HB⟩ := hcut
  cases kq with
  | zero => exact absurd HA.out (by simp [exegeteref03_split.j0])
  | succ kj8 =>
   have H := HA.out
   clear HA
   simp only [exegeteref03_split.j0] at H
   by_cases c15 : a1 = 0
   · rw [if_pos c15] at H
     exact absurd H (by simp)
   rw [if_neg c15] at H
   have c15b0 : (a1 == 0) = false := beq_eq_false_iff_ne.mpr c15
   have c15b1 : (a1 != 0) = true := bne_iff_ne.mpr c15
   have HC16 := Aside0.mk H; clear H
   have hcz17_0 : wc.cell? ⟨gb306, 0, none⟩ = some (.int .i64 a0_0) := (blk_cell BK306.out 0).trans rfl
   have hcz17_1 : wc.cell? ⟨gb306, 1, none⟩ = some (.int .i64 a0_1) := (blk_cell BK306.out 1).trans rfl
   have hfz17_0 := blk_frozen BK306.out 0
   have hfz17_1 := blk_frozen BK306.out 1
   go_upto_if 51 with (fail)
   repeat (go_quiet (fail); go_upto_if 51 with (fail))
   go_cut [8] (fun v8 wc => ∃ (kq : Nat) (x8_15 : Int), v8 = .int .i64 x8_15 ∧ Aside0 (exegeteref03_split.j1 kq x5_8 x6_8 x8_15 a0_0 a0_1 = some r) ∧ Aside0 (kq ≤ kj8) ∧ Aside0 (Kd.R k35 35 wc w.heap.size (fun k_ => k_ ≠ gb306) u5 x5_8) ∧ Aside0 (wc.heap[gb306]? = some (.cells #[.int .i64 a0_0, .int .i64 a0_1] 35 (0, 0))) ∧ Aside0 (Below w.heap.size w wc))
   case first =>
    have H := HC16.out
    clear HC16
    by_cases c18 : (Int.tmod a0_1 a1) = (wrap64 (a1 - 1))
    · rw [if_pos c18] at H
      have c18b0 : ((Int.tmod a0_1 a1) == (wrap64 (a1 - 1))) = true := beq_iff_eq.mpr c18
      have c18b1 : ((Int.tmod a0_1 a1) != (wrap64 (a1 - 1))) = false := bne_eq_false_iff_eq.mpr c18
      clear c18
      (first | rw [c18b0] | (simp only [i64_w, i32_w]; rw [c18b0]) | skip)
      have H' := Aside0.mk H; clear H
      go_wp2
      repeat (go_quiet (fail); try go_wp2)
      go_meet
      case rel => exact ⟨_, (a0_1), (by first | rfl | (simp; done) | (simp [*]; done) | (simp [*, bne]; done)), H', ⟨by have := HJ8.out; first | omega | exact Nat.le_refl _⟩, ⟨rU HO_5.out⟩, ⟨bU BK306.out⟩, ⟨wV HB.out GE306.out⟩⟩
    rw [if_neg c18] at H
    have c18b0 : ((Int.tmod a0_1 a1) == (wrap64 (a1 - 1))) = false := beq_eq_false_iff_ne.mpr c18
    have c18b1 : ((Int.tmod a0_1 a1) != (wrap64 (a1 - 1))) = true := bne_iff_ne.mpr c18
    (first | rw [c18b0] | (simp only [i64_w, i32_w]; rw [c18b0]) | skip)
    have H' := Aside0.mk H; clear H
    have hcz19_0 : wc.cell? ⟨gb306, 0, none⟩ = some (.int .i64 a0_0) := (blk_cell BK306.out 0).trans rfl
    have hcz19_1 : wc.cell? ⟨gb306, 1, none⟩ = some (.int .i64 a0_1) := (blk_cell BK306.out 1).trans rfl
    have hfz19_0 := blk_frozen BK306.out 0
    have hfz19_1 := blk_frozen BK306.out 1
    go_wp2
    repeat (go_quiet (fail); try go_wp2)
    go_meet
    case rel => exact ⟨_, (wrap64 ((wrap64 ((wrap64 (Int.tdiv a0_1 a1)) * a1)) - 1)), (by first | rfl | (simp; done) | (simp [*]; done) | (simp [*, bne]; done)), H', ⟨by have := HJ8.out; first | omega | exact Nat.le_refl _⟩, ⟨rU HO_5.out⟩, ⟨bU BK306.out⟩, ⟨wV HB.out GE306.out⟩⟩
   case rest =>
    clear HC16; (try clear c1); (try clear p2); (try clear c3); (try clear c3b0); (try clear c3b1); (try clear c4); (try clear c4b0); (try clear c4b1); (try clear c5); (try clear c6); (try clear p6); (try clear c12); (try clear c12b0); (try clear c12b1); (try clear c13); (try clear c15); (try clear c15b0); (try clear c15b1); (try clear c18); (try clear c18b0); (try clear c18b1); (try clear hcz11_0); (try clear hcz11_1)
    (try clear hcz17_0); (try clear hcz17_1); (try clear hcz19_0); (try clear hcz19_1); (try clear hcz7_0); (try clear hcz7_1); (try clear hfz11_0); (try clear hfz11_1); (try clear hfz17_0); (try clear hfz17_1); (try clear hfz19_0); (try clear hfz19_1); (try clear hfz7_0); (try clear hfz7_1); (try clear p2); (try clear p6)
    obtain ⟨kq, x8_15, rfl, HA, HJ15, HO_5, BK306, HB⟩ := hcut
    cases kq with
    | zero => exact absurd HA.out (by simp [exegeteref03_split.j1])
    | succ kj15 =>
     have H := HA.out
     clear HA
     simp only [exegeteref03_split.j1] at H
     by_cases c20 : x6_8 ≤ x8_15
     · rw [if_pos c20] at H
       have c20b0 : decide (x6_8 ≤ x8_15) = true := decide_eq_true c20
       clear c20
       by_cases c21 : x5_8.length < 8796093022208
       rotate_left
       · rw [if_neg c21] at H
         exact absurd H (by simp)
       rw [if_pos c21] at H
       have LMc21 := Aside0.mk c21
       clear c21
       obtain ⟨y313, hy313⟩ : ∃ y_ : List (S35), y_ = (x5_8 ++ [(⟨x6_8, x8_15⟩ : S35)]) := ⟨_, rfl⟩
       replace H : (if x8_15 < a0_1 then (if y313.length < 8796093022208 then (some (y313 ++ [(⟨wrap64 (x8_15 + 1), a0_1⟩ : S35)])) else (none)) else (some y313)) = some r := by first | (rw [hy313]; with_reducible exact H) | (have H2_ := (Option.bind_some _ _).symm.trans H; rw [hy313]; with_reducible exact H2_) | (have H2_ := (Option.bind_some _ _).symm.trans H; with_reducible exact H2_) | with_reducible exact H | (rw [hy313]; exact H) | exact H
       have Ny313 := Aside0.mk hy313
       clear hy313
       by_cases c22 : x8_15 < a0_1
       · rw [if_pos c22] at H
         have c22b0 : decide (x8_15 < a0_1) = true := decide_eq_true c22
         clear c22
         by_cases c23 : y313.length < 8796093022208
         · rw [if_pos c23] at H
           have LMc23 := Aside0.mk c23
           clear c23
           obtain ⟨y316, hy316⟩ : ∃ y_ : List (S35), y_ = (y313 ++ [(⟨wrap64 (x8_15 + 1), a0_1⟩ : S35)]) := ⟨_, rfl⟩
           replace H : (some y316) = some r := by first | (rw [hy316]; with_reducible exact H) | (have H2_ := (Option.bind_some _ _).symm.trans H; rw [hy316]; with_reducible exact H2_) | (have H2_ := (Option.bind_some _ _).symm.trans H; with_reducible exact H2_) | with_reducible exact H | (rw [hy316]; exact H) | exact H
           have Ny316 := Aside0.mk hy316
           clear hy316
           obtain rfl := Option.some.inj H
           go_wp2_with (first | ((with_reducible refine gate_builtin (b := .append) (xs := #[.tmp 62, .tmp 66]) rfl ?_); at_builtin; refine Kd.R_append k35 (w0 := w) w.heap.size rfl (.tmp 62) (.tmp 66) 22 35 (.agg #[(.int .i64 0), (.int .i64 0)]) 16 rfl Try.underlying22 info35 rfl (by decide) (by omega) u5 x5_8 (⟨x6_8, x8_15⟩ : S35) [.int .i64 x6_8, .int .i64 x8_15] (fun k_ => k_ ≠ gb306) (fun _ => False) rfl rfl ?aP (fun _ hk => hk.elim) ?aF ?aO ?aB ?aS ?aL ?_; (case aP => exact k35_mkM _ _ _ (⟨x6_8, x8_15⟩ : S35)); (case aB => exact (wV HB.out GE306.out)); (case aF => exact (fun k_ hk => Kd.freshB (g := gb306) (o := .cells #[.int .i64 a0_0, .int .i64 a0_1] 35 (0, 0)) (bU BK306.out) k_ hk)); (case aO => exact (rU HO_5.out)); (case aS => exact (below_size (wV HB.out GE306.out))); (case aL => have := LMc21.out; omega); intro v314 w24 ho hb hg hat; rw [← Ny313.out] at ho; have n0_ := Aside0.mk (blk_grown (g := gb306) (o := .cells #[.int .i64 a0_0, .int .i64 a0_1] 35 (0, 0)) (bU BK306.out) hg (Kd.R_away HO_5.out (fun _ hk => hk))); have n1_ := Aside0.mk (hb); have n2_ := Aside0.mk (ho); clear BK306; clear HB; clear HO_5; have BK306 := n0_; have HB := n1_; have HO315 := n2_; clear n0_ n1_ n2_; clear ho hb hg hat; have hcz25_0 : w24.cell? ⟨gb306, 0, none⟩ = some (.int .i64 a0_0) := (blk_cell BK306.out 0).trans rfl; have hcz25_1 : w24.cell? ⟨gb306, 1, none⟩ = some (.int .i64 a0_1) := (blk_cell BK306.out 1).trans rfl; have hfz25_0 := blk_frozen BK306.out 0; have hfz25_1 := blk_frozen BK306.out 1) | ((with_reducible refine gate_builtin (b := .append) (xs := #[.tmp 72, .tmp 78]) rfl ?_); at_builtin; refine Kd.R_append k35 (w0 := w) w.heap.size rfl (.tmp 72) (.tmp 78) 22 35 (.agg #[(.int .i64 0), (.int .i64 0)]) 16 rfl Try.underlying22 info35 rfl (by decide) (by omega) v314 y313 (⟨wrap64 (x8_15 + 1), a0_1⟩ : S35) [.int .i64 (wrap64 (x8_15 + 1)), .int .i64 a0_1] (fun k_ => k_ ≠ gb306) (fun _ => False) rfl rfl ?aP (fun _ hk => hk.elim) ?aF ?aO ?aB ?aS ?aL ?_; (case aP => exact k35_mkM _ _ _ (⟨wrap64 (x8_15 + 1), a0_1⟩ : S35)); (case aB => exact (wV HB.out GE306.out)); (case aF => exact (fun k_ hk => Kd.freshB (g := gb306) (o := .cells #[.int .i64 a0_0, .int .i64 a0_1] 35 (0, 0)) (bU BK306.out) k_ hk)); (case aO => exact (rU HO315.out)); (case aS => exact (below_size (wV HB.out GE306.out))); (case aL => have := LMc23.out; omega); intro v317 w26 ho hb hg hat; rw [← Ny316.out] at ho; have n0_ := Aside0.mk (blk_grown (g := gb306) (o := .cells #[.int .i64 a0_0, .int .i64 a0_1] 35 (0, 0)) (bU BK306.out) hg (Kd.R_away HO315.out (fun _ hk => hk))); have n1_ := Aside0.mk (hb); have n2_ := Aside0.mk (ho); clear BK306; clear HB; clear HO315; have BK306 := n0_; have HB := n1_; have HO318 := n2_; clear n0_ n1_ n2_; clear ho hb hg hat))
           repeat (go_quiet (first | ((with_reducible refine gate_builtin (b := .append) (xs := #[.tmp 62, .tmp 66]) rfl ?_); at_builtin; refine Kd.R_append k35 (w0 := w) w.heap.size rfl (.tmp 62) (.tmp 66) 22 35 (.agg #[(.int .i64 0), (.int .i64 0)]) 16 rfl Try.underlying22 info35 rfl (by decide) (by omega) u5 x5_8 (⟨x6_8, x8_15⟩ : S35) [.int .i64 x6_8, .int .i64 x8_15] (fun k_ => k_ ≠ gb306) (fun _ => False) rfl rfl ?aP (fun _ hk => hk.elim) ?aF ?aO ?aB ?aS ?aL ?_; (case aP => exact k35_mkM _ _ _ (⟨x6_8, x8_15⟩ : S35)); (case aB => exact (wV HB.out GE306.out)); (case aF => exact (fun k_ hk => Kd.freshB (g := gb306) (o := .cells #[.int .i64 a0_0, .int .i64 a0_1] 35 (0, 0)) (bU BK306.out) k_ hk)); (case aO => exact (rU HO_5.out)); (case aS => exact (below_size (wV HB.out GE306.out))); (case aL => have := LMc21.out; omega); intro v314 w24 ho hb hg hat; rw [← Ny313.out] at ho; have n0_ := Aside0.mk (blk_grown (g := gb306) (o := .cells #[.int .i64 a0_0, .int .i64 a0_1] 35 (0, 0)) (bU BK306.out) hg (Kd.R_away HO_5.out (fun _ hk => hk))); have n1_ := Aside0.mk (hb); have n2_ := Aside0.mk (ho); clear BK306; clear HB; clear HO_5; have BK306 := n0_; have HB := n1_; have HO315 := n2_; clear n0_ n1_ n2_; clear ho hb hg hat; have hcz25_0 : w24.cell? ⟨gb306, 0, none⟩ = some (.int .i64 a0_0) := (blk_cell BK306.out 0).trans rfl; have hcz25_1 : w24.cell? ⟨gb306, 1, none⟩ = some (.int .i64 a0_1) := (blk_cell BK306.out 1).trans rfl; have hfz25_0 := blk_frozen BK306.out 0; have hfz25_1 := blk_frozen BK306.out 1) | ((with_reducible refine gate_builtin (b := .append) (xs := #[.tmp 72, .tmp 78]) rfl ?_); at_builtin; refine Kd.R_append k35 (w0 := w) w.heap.size rfl (.tmp 72) (.tmp 78) 22 35 (.agg #[(.int .i64 0), (.int .i64 0)]) 16 rfl Try.underlying22 info35 rfl (by decide) (by omega) v314 y313 (⟨wrap64 (x8_15 + 1), a0_1⟩ : S35) [.int .i64 (wrap64 (x8_15 + 1)), .int .i64 a0_1] (fun k_ => k_ ≠ gb306) (fun _ => False) rfl rfl ?aP (fun _ hk => hk.elim) ?aF ?aO ?aB ?aS ?aL ?_; (case aP => exact k35_mkM _ _ _ (⟨wrap64 (x8_15 + 1), a0_1⟩ : S35)); (case aB => exact (wV HB.out GE306.out)); (case aF => exact (fun k_ hk => Kd.freshB (g := gb306) (o := .cells #[.int .i64 a0_0, .int .i64 a0_1] 35 (0, 0)) (bU BK306.out) k_ hk)); (case aO => exact (rU HO315.out)); (case aS => exact (below_size (wV HB.out GE306.out))); (case aL => have := LMc23.out; omega); intro v317 w26 ho hb hg hat; rw [← Ny316.out] at ho; have n0_ := Aside0.mk (blk_grown (g := gb306) (o := .cells #[.int .i64 a0_0, .int .i64 a0_1] 35 (0, 0)) (bU BK306.out) hg (Kd.R_away HO315.out (fun _ hk => hk))); have n1_ := Aside0.mk (hb); have n2_ := Aside0.mk (ho); clear BK306; clear HB; clear HO315; have BK306 := n0_; have HB := n1_; have HO318 := n2_; clear n0_ n1_ n2_; clear ho hb hg hat)); try go_wp2_with (first | ((with_reducible refine gate_builtin (b := .append) (xs := #[.tmp 62, .tmp 66]) rfl ?_); at_builtin; refine Kd.R_append k35 (w0 := w) w.heap.size rfl (.tmp 62) (.tmp 66) 22 35 (.agg #[(.int .i64 0), (.int .i64 0)]) 16 rfl Try.underlying22 info35 rfl (by decide) (by omega) u5 x5_8 (⟨x6_8, x8_15⟩ : S35) [.int .i64 x6_8, .int .i64 x8_15] (fun k_ => k_ ≠ gb306) (fun _ => False) rfl rfl ?aP (fun _ hk => hk.elim) ?aF ?aO ?aB ?aS ?aL ?_; (case aP => exact k35_mkM _ _ _ (⟨x6_8, x8_15⟩ : S35)); (case aB => exact (wV HB.out GE306.out)); (case aF => exact (fun k_ hk => Kd.freshB (g := gb306) (o := .cells #[.int .i64 a0_0, .int .i64 a0_1] 35 (0, 0)) (bU BK306.out) k_ hk)); (case aO => exact (rU HO_5.out)); (case aS => exact (below_size (wV HB.out GE306.out))); (case aL => have := LMc21.out; omega); intro v314 w24 ho hb hg hat; rw [← Ny313.out] at ho; have n0_ := Aside0.mk (blk_grown (g := gb306) (o := .cells #[.int .i64 a0_0, .int .i64 a0_1] 35 (0, 0)) (bU BK306.out) hg (Kd.R_away HO_5.out (fun _ hk => hk))); have n1_ := Aside0.mk (hb); have n2_ := Aside0.mk (ho); clear BK306; clear HB; clear HO_5; have BK306 := n0_; have HB := n1_; have HO315 := n2_; clear n0_ n1_ n2_; clear ho hb hg hat; have hcz25_0 : w24.cell? ⟨gb306, 0, none⟩ = some (.int .i64 a0_0) := (blk_cell BK306.out 0).trans rfl; have hcz25_1 : w24.cell? ⟨gb306, 1, none⟩ = some (.int .i64 a0_1) := (blk_cell BK306.out 1).trans rfl; have hfz25_0 := blk_frozen BK306.out 0; have hfz25_1 := blk_frozen BK306.out 1) | ((with_reducible refine gate_builtin (b := .append) (xs := #[.tmp 72, .tmp 78]) rfl ?_); at_builtin; refine Kd.R_append k35 (w0 := w) w.heap.size rfl (.tmp 72) (.tmp 78) 22 35 (.agg #[(.int .i64 0), (.int .i64 0)]) 16 rfl Try.underlying22 info35 rfl (by decide) (by omega) v314 y313 (⟨wrap64 (x8_15 + 1), a0_1⟩ : S35) [.int .i64 (wrap64 (x8_15 + 1)), .int .i64 a0_1] (fun k_ => k_ ≠ gb306) (fun _ => False) rfl rfl ?aP (fun _ hk => hk.elim) ?aF ?aO ?aB ?aS ?aL ?_; (case aP => exact k35_mkM _ _ _ (⟨wrap64 (x8_15 + 1), a0_1⟩ : S35)); (case aB => exact (wV HB.out GE306.out)); (case aF => exact (fun k_ hk => Kd.freshB (g := gb306) (o := .cells #[.int .i64 a0_0, .int .i64 a0_1] 35 (0, 0)) (bU BK306.out) k_ hk)); (case aO => exact (rU HO315.out)); (case aS => exact (below_size (wV HB.out GE306.out))); (case aL => have := LMc23.out; omega); intro v317 w26 ho hb hg hat; rw [← Ny316.out] at ho; have n0_ := Aside0.mk (blk_grown (g := gb306) (o := .cells #[.int .i64 a0_0, .int .i64 a0_1] 35 (0, 0)) (bU BK306.out) hg (Kd.R_away HO315.out (fun _ hk => hk))); have n1_ := Aside0.mk (hb); have n2_ := Aside0.mk (ho); clear BK306; clear HB; clear HO315; have BK306 := n0_; have HB := n1_; have HO318 := n2_; clear n0_ n1_ n2_; clear ho hb hg hat)))
           go_ret
           exact ⟨_, by first | rfl | (simp [errW_none, errW_some] <;> rfl) | (simp [*, errW_none, errW_some] <;> rfl), by (with_reducible repeat (first | apply Kd.R_alloc | apply Kd.R_drewN | apply Kd.R_drew)); exact Kd.R_mono HO318.out (fun _ hk => trivial), wV HB.out GE306.out⟩
         rw [if_neg c23] at H
         exact absurd H (by simp)
       rw [if_neg c22] at H
       have c22b0 : decide (x8_15 < a0_1) = false := decide_eq_false c22
       clear c22
       obtain rfl := Option.some.inj H
       go_wp2_with (first | ((with_reducible refine gate_builtin (b := .append) (xs := #[.tmp 62, .tmp 66]) rfl ?_); at_builtin; refine Kd.R_append k35 (w0 := w) w.heap.size rfl (.tmp 62) (.tmp 66) 22 35 (.agg #[(.int .i64 0), (.int .i64 0)]) 16 rfl Try.underlying22 info35 rfl (by decide) (by omega) u5 x5_8 (⟨x6_8, x8_15⟩ : S35) [.int .i64 x6_8, .int .i64 x8_15] (fun k_ => k_ ≠ gb306) (fun _ => False) rfl rfl ?aP (fun _ hk => hk.elim) ?aF ?aO ?aB ?aS ?aL ?_; (case aP => exact k35_mkM _ _ _ (⟨x6_8, x8_15⟩ : S35)); (case aB => exact (wV HB.out GE306.out)); (case aF => exact (fun k_ hk => Kd.freshB (g := gb306) (o := .cells #[.int .i64 a0_0, .int .i64 a0_1] 35 (0, 0)) (bU BK306.out) k_ hk)); (case aO => exact (rU HO_5.out)); (case aS => exact (below_size (wV HB.out GE306.out))); (case aL => have := LMc21.out; omega); intro v314 w27 ho hb hg hat; rw [← Ny313.out] at ho; have n0_ := Aside0.mk (blk_grown (g := gb306) (o := .cells #[.int .i64 a0_0, .int .i64 a0_1] 35 (0, 0)) (bU BK306.out) hg (Kd.R_away HO_5.out (fun _ hk => hk))); have n1_ := Aside0.mk (hb); have n2_ := Aside0.mk (ho); clear BK306; clear HB; clear HO_5; have BK306 := n0_; have HB := n1_; have HO315 := n2_; clear n0_ n1_ n2_; clear ho hb hg hat; have hcz28_0 : w27.cell? ⟨gb306, 0, none⟩ = some (.int .i64 a0_0) := (blk_cell BK306.out 0).trans rfl; have hcz28_1 : w27.cell? ⟨gb306, 1, none⟩ = some (.int .i64 a0_1) := (blk_cell BK306.out 1).trans rfl; have hfz28_0 := blk_frozen BK306.out 0; have hfz28_1 := blk_frozen BK306.out 1))
       repeat (go_quiet (first | ((with_reducible refine gate_builtin (b := .append) (xs := #[.tmp 62, .tmp 66]) rfl ?_); at_builtin; refine Kd.R_append k35 (w0 := w) w.heap.size rfl (.tmp 62) (.tmp 66) 22 35 (.agg #[(.int .i64 0), (.int .i64 0)]) 16 rfl Try.underlying22 info35 rfl (by decide) (by omega) u5 x5_8 (⟨x6_8, x8_15⟩ : S35) [.int .i64 x6_8, .int .i64 x8_15] (fun k_ => k_ ≠ gb306) (fun _ => False) rfl rfl ?aP (fun _ hk => hk.elim) ?aF ?aO ?aB ?aS ?aL ?_; (case aP => exact k35_mkM _ _ _ (⟨x6_8, x8_15⟩ : S35)); (case aB => exact (wV HB.out GE306.out)); (case aF => exact (fun k_ hk => Kd.freshB (g := gb306) (o := .cells #[.int .i64 a0_0, .int .i64 a0_1] 35 (0, 0)) (bU BK306.out) k_ hk)); (case aO => exact (rU HO_5.out)); (case aS => exact (below_size (wV HB.out GE306.out))); (case aL => have := LMc21.out; omega); intro v314 w27 ho hb hg hat; rw [← Ny313.out] at ho; have n0_ := Aside0.mk (blk_grown (g := gb306) (o := .cells #[.int .i64 a0_0, .int .i64 a0_1] 35 (0, 0)) (bU BK306.out) hg (Kd.R_away HO_5.out (fun _ hk => hk))); have n1_ := Aside0.mk (hb); have n2_ := Aside0.mk (ho); clear BK306; clear HB; clear HO_5; have BK306 := n0_; have HB := n1_; have HO315 := n2_; clear n0_ n1_ n2_; clear ho hb hg hat; have hcz28_0 : w27.cell? ⟨gb306, 0, none⟩ = some (.int .i64 a0_0) := (blk_cell BK306.out 0).trans rfl; have hcz28_1 : w27.cell? ⟨gb306, 1, none⟩ = some (.int .i64 a0_1) := (blk_cell BK306.out 1).trans rfl; have hfz28_0 := blk_frozen BK306.out 0; have hfz28_1 := blk_frozen BK306.out 1)); try go_wp2_with (first | ((with_reducible refine gate_builtin (b := .append) (xs := #[.tmp 62, .tmp 66]) rfl ?_); at_builtin; refine Kd.R_append k35 (w0 := w) w.heap.size rfl (.tmp 62) (.tmp 66) 22 35 (.agg #[(.int .i64 0), (.int .i64 0)]) 16 rfl Try.underlying22 info35 rfl (by decide) (by omega) u5 x5_8 (⟨x6_8, x8_15⟩ : S35) [.int .i64 x6_8, .int .i64 x8_15] (fun k_ => k_ ≠ gb306) (fun _ => False) rfl rfl ?aP (fun _ hk => hk.elim) ?aF ?aO ?aB ?aS ?aL ?_; (case aP => exact k35_mkM _ _ _ (⟨x6_8, x8_15⟩ : S35)); (case aB => exact (wV HB.out GE306.out)); (case aF => exact (fun k_ hk => Kd.freshB (g := gb306) (o := .cells #[.int .i64 a0_0, .int .i64 a0_1] 35 (0, 0)) (bU BK306.out) k_ hk)); (case aO => exact (rU HO_5.out)); (case aS => exact (below_size (wV HB.out GE306.out))); (case aL => have := LMc21.out; omega); intro v314 w27 ho hb hg hat; rw [← Ny313.out] at ho; have n0_ := Aside0.mk (blk_grown (g := gb306) (o := .cells #[.int .i64 a0_0, .int .i64 a0_1] 35 (0, 0)) (bU BK306.out) hg (Kd.R_away HO_5.out (fun _ hk => hk))); have n1_ := Aside0.mk (hb); have n2_ := Aside0.mk (ho); clear BK306; clear HB; clear HO_5; have BK306 := n0_; have HB := n1_; have HO315 := n2_; clear n0_ n1_ n2_; clear ho hb hg hat; have hcz28_0 : w27.cell? ⟨gb306, 0, none⟩ = some (.int .i64 a0_0) := (blk_cell BK306.out 0).trans rfl; have hcz28_1 : w27.cell? ⟨gb306, 1, none⟩ = some (.int .i64 a0_1) := (blk_cell BK306.out 1).trans rfl; have hfz28_0 := blk_frozen BK306.out 0; have hfz28_1 := blk_frozen BK306.out 1)))
       go_ret
       exact ⟨_, by first | rfl | (simp [errW_none, errW_some] <;> rfl) | (simp [*, errW_none, errW_some] <;> rfl), by (with_reducible repeat (first | apply Kd.R_alloc | apply Kd.R_drewN | apply Kd.R_drew)); exact Kd.R_mono HO315.out (fun _ hk => trivial), wV HB.out GE306.out⟩
     rw [if_neg c20] at H
     have c20b0 : decide (x6_8 ≤ x8_15) = false := decide_eq_false c20
     clear c20
     by_cases c29 : x8_15 < a0_1
     · rw [if_pos c29] at H
       have c29b0 : decide (x8_15 < a0_1) = true := decide_eq_true c29
       clear c29
       by_cases c30 : x5_8.length < 8796093022208
       rotate_left
       · rw [if_neg c30] at H
         exact absurd H (by simp)
       rw [if_pos c30] at H
       have LMc30 := Aside0.mk c30
       clear c30
       obtain ⟨y319, hy319⟩ : ∃ y_ : List (S35), y_ = (x5_8 ++ [(⟨wrap64 (x8_15 + 1), a0_1⟩ : S35)]) := ⟨_, rfl⟩
       replace H : (some y319) = some r := by first | (rw [hy319]; with_reducible exact H) | (have H2_ := (Option.bind_some _ _).symm.trans H; rw [hy319]; with_reducible exact H2_) | (have H2_ := (Option.bind_some _ _).symm.trans H; with_reducible exact H2_) | with_reducible exact H | (rw [hy319]; exact H) | exact H
       have Ny319 := Aside0.mk hy319
       clear hy319
       obtain rfl := Option.some.inj H
       have hcz31_0 : wc.cell? ⟨gb306, 0, none⟩ = some (.int .i64 a0_0) := (blk_cell BK306.out 0).trans rfl
       have hcz31_1 : wc.cell? ⟨gb306, 1, none⟩ = some (.int .i64 a0_1) := (blk_cell BK306.out 1).trans rfl
       have hfz31_0 := blk_frozen BK306.out 0
       have hfz31_1 := blk_frozen BK306.out 1
       go_wp2_with (first | ((with_reducible refine gate_builtin (b := .append) (xs := #[.tmp 72, .tmp 78]) rfl ?_); at_builtin; refine Kd.R_append k35 (w0 := w) w.heap.size rfl (.tmp 72) (.tmp 78) 22 35 (.agg #[(.int .i64 0), (.int .i64 0)]) 16 rfl Try.underlying22 info35 rfl (by decide) (by omega) u5 x5_8 (⟨wrap64 (x8_15 + 1), a0_1⟩ : S35) [.int .i64 (wrap64 (x8_15 + 1)), .int .i64 a0_1] (fun k_ => k_ ≠ gb306) (fun _ => False) rfl rfl ?aP (fun _ hk => hk.elim) ?aF ?aO ?aB ?aS ?aL ?_; (case aP => exact k35_mkM _ _ _ (⟨wrap64 (x8_15 + 1), a0_1⟩ : S35)); (case aB => exact (wV HB.out GE306.out)); (case aF => exact (fun k_ hk => Kd.freshB (g := gb306) (o := .cells #[.int .i64 a0_0, .int .i64 a0_1] 35 (0, 0)) (bU BK306.out) k_ hk)); (case aO => exact (rU HO_5.out)); (case aS => exact (below_size (wV HB.out GE306.out))); (case aL => have := LMc30.out; omega); intro v320 w32 ho hb hg hat; rw [← Ny319.out] at ho; have n0_ := Aside0.mk (blk_grown (g := gb306) (o := .cells #[.int .i64 a0_0, .int .i64 a0_1] 35 (0, 0)) (bU BK306.out) hg (Kd.R_away HO_5.out (fun _ hk => hk))); have n1_ := Aside0.mk (hb); have n2_ := Aside0.mk (ho); clear BK306; clear HB; clear HO_5; have BK306 := n0_; have HB := n1_; have HO321 := n2_; clear n0_ n1_ n2_; clear ho hb hg hat))
       repeat (go_quiet (first | ((with_reducible refine gate_builtin (b := .append) (xs := #[.tmp 72, .tmp 78]) rfl ?_); at_builtin; refine Kd.R_append k35 (w0 := w) w.heap.size rfl (.tmp 72) (.tmp 78) 22 35 (.agg #[(.int .i64 0), (.int .i64 0)]) 16 rfl Try.underlying22 info35 rfl (by decide) (by omega) u5 x5_8 (⟨wrap64 (x8_15 + 1), a0_1⟩ : S35) [.int .i64 (wrap64 (x8_15 + 1)), .int .i64 a0_1] (fun k_ => k_ ≠ gb306) (fun _ => False) rfl rfl ?aP (fun _ hk => hk.elim) ?aF ?aO ?aB ?aS ?aL ?_; (case aP => exact k35_mkM _ _ _ (⟨wrap64 (x8_15 + 1), a0_1⟩ : S35)); (case aB => exact (wV HB.out GE306.out)); (case aF => exact (fun k_ hk => Kd.freshB (g := gb306) (o := .cells #[.int .i64 a0_0, .int .i64 a0_1] 35 (0, 0)) (bU BK306.out) k_ hk)); (case aO => exact (rU HO_5.out)); (case aS => exact (below_size (wV HB.out GE306.out))); (case aL => have := LMc30.out; omega); intro v320 w32 ho hb hg hat; rw [← Ny319.out] at ho; have n0_ := Aside0.mk (blk_grown (g := gb306) (o := .cells #[.int .i64 a0_0, .int .i64 a0_1] 35 (0, 0)) (bU BK306.out) hg (Kd.R_away HO_5.out (fun _ hk => hk))); have n1_ := Aside0.mk (hb); have n2_ := Aside0.mk (ho); clear BK306; clear HB; clear HO_5; have BK306 := n0_; have HB := n1_; have HO321 := n2_; clear n0_ n1_ n2_; clear ho hb hg hat)); try go_wp2_with (first | ((with_reducible refine gate_builtin (b := .append) (xs := #[.tmp 72, .tmp 78]) rfl ?_); at_builtin; refine Kd.R_append k35 (w0 := w) w.heap.size rfl (.tmp 72) (.tmp 78) 22 35 (.agg #[(.int .i64 0), (.int .i64 0)]) 16 rfl Try.underlying22 info35 rfl (by decide) (by omega) u5 x5_8 (⟨wrap64 (x8_15 + 1), a0_1⟩ : S35) [.int .i64 (wrap64 (x8_15 + 1)), .int .i64 a0_1] (fun k_ => k_ ≠ gb306) (fun _ => False) rfl rfl ?aP (fun _ hk => hk.elim) ?aF ?aO ?aB ?aS ?aL ?_; (case aP => exact k35_mkM _ _ _ (⟨wrap64 (x8_15 + 1), a0_1⟩ : S35)); (case aB => exact (wV HB.out GE306.out)); (case aF => exact (fun k_ hk => Kd.freshB (g := gb306) (o := .cells #[.int .i64 a0_0, .int .i64 a0_1] 35 (0, 0)) (bU BK306.out) k_ hk)); (case aO => exact (rU HO_5.out)); (case aS => exact (below_size (wV HB.out GE306.out))); (case aL => have := LMc30.out; omega); intro v320 w32 ho hb hg hat; rw [← Ny319.out] at ho; have n0_ := Aside0.mk (blk_grown (g := gb306) (o := .cells #[.int .i64 a0_0, .int .i64 a0_1] 35 (0, 0)) (bU BK306.out) hg (Kd.R_away HO_5.out (fun _ hk => hk))); have n1_ := Aside0.mk (hb); have n2_ := Aside0.mk (ho); clear BK306; clear HB; clear HO_5; have BK306 := n0_; have HB := n1_; have HO321 := n2_; clear n0_ n1_ n2_; clear ho hb hg hat)))
       go_ret
       exact ⟨_, by first | rfl | (simp [errW_none, errW_some] <;> rfl) | (simp [*, errW_none, errW_some] <;> rfl), by (with_reducible repeat (first | apply Kd.R_alloc | apply Kd.R_drewN | apply Kd.R_drew)); exact Kd.R_mono HO321.out (fun _ hk => trivial), wV HB.out GE306.out⟩
     rw [if_neg c29] at H
     have c29b0 : decide (x8_15 < a0_1) = false := decide_eq_false c29
     clear c29
     obtain rfl := Option.some.inj H
     have hcz33_0 : wc.cell? ⟨gb306, 0, none⟩ = some (.int .i64 a0_0) := (blk_cell BK306.out 0).trans rfl
     have hcz33_1 : wc.cell? ⟨gb306, 1, none⟩ = some (.int .i64 a0_1) := (blk_cell BK306.out 1).trans rfl
     have hfz33_0 := blk_frozen BK306.out 0
     have hfz33_1 := blk_frozen BK306.out 1
     go_wp2
     repeat (go_quiet (fail); try go_wp2)
     go_ret
     exact ⟨_, by first | rfl | (simp [errW_none, errW_some] <;> rfl) | (simp [*, errW_none, errW_some] <;> rfl), by (with_reducible repeat (first | apply Kd.R_alloc | apply Kd.R_drewN | apply Kd.R_drew)); exact Kd.R_mono HO_5.out (fun _ hk => trivial), wV HB.out GE306.out⟩
end Go.Proofs.Ytcdahnkdongmdaa.All
