/- Texts of the claim TermTells, merged, without what it does not use. -/
import Derived.Test.YtcdahnkdongmdaaZTermTellsX1
import Derived.Test.YtcdahnkdongmdaaZTermTellsX14
namespace Go.Proofs.Ytcdahnkdongmdaa.All
open Go.RowKit Go.Proofs.YtcdahnkdongmdaaW.PrintWords Go.Proofs.YtcdahnkdongmdaaW.PrintLast Go.Proofs.YtcdahnkdongmdaaW.PrintMore
attribute [local go_sem] max2_int min2_int max_two min_two
set_option linter.unusedVariables false
set_option linter.unusedSimpArgs false
def exegeteref14_Texts.l0 : Nat → List (S43) → List Int → Int → List Int → Int → Option (List Int)
  | 0, _, _, _, _, _ => none
  | k + 1, x0, x1, x2, x7, x8 => if x8 < (x0.length : Int) then (if 0 ≤ x8 then ((exegeteref14_Match.f k ((rd_T43 x0 x8).f0) ((rd_T43 x0 x8).f1) ((rd_T43 x0 x8).f2) x1 x2).bind fun bt273 => (if bt273.2 = true then (if x7.length < 17592186044416 then (exegeteref14_Texts.l0 k x0 x1 (wrap64 (x2 + bt273.1)) (x7 ++ [wrap64 (x2 + bt273.1)]) (wrap64 (x8 + 1))) else (none)) else (some x7))) else (none)) else (some x7)
def exegeteref14_Texts.f (k : Nat) (l0 : List (S43)) (l1 : List Int) (a2 : Int) : Option (List Int) := exegeteref14_Texts.l0 k l0 l1 a2 ([] : List Int) 0
set_option maxHeartbeats 8000000 in
set_option maxRecDepth 100000 in
theorem exegeteref14_Texts.calls (k : Nat) (A0 : Option Addr) (c0 : Nat) (l0 : List (S43)) (A1 : Option Addr) (c1 : Nat) (l1 : List Int) (a2 : Int) (r : List Int) (w : World) (hr0 : Kd.C k43 w A0 l0.length l0) (hc0 : l0.length ≤ c0) (hr1 : Kd.C (Kd.int .u8) w A1 l1.length l1) (hc1 : l1.length ≤ c1) (h : exegeteref14_Texts.f k l0 l1 a2 = some r) :
 Calls Try.prog 29 #[.slice A0 l0.length c0, .slice A1 l1.length c1, .int .i64 a2] w fun e w' => ∃ v0_ : Value, e = .returned (v0_) ∧ Kd.R (Kd.int .i64) 3 w' w.heap.size (fun _ => True) v0_ r ∧ Below w.heap.size w w' := by
 have hu43 := Try.underlying43
 have HR0 := Aside0.mk hr0
 have HC0 := Aside0.mk hc0
 clear hr0 hc0
 have HR1 := Aside0.mk hr1
 have HC1 := Aside0.mk hc1
 clear hr1 hc1
 have HB := Aside0.mk (Below.refl w.heap.size w)
 have H : (exegeteref14_Texts.l0 k l0 l1 a2 ([] : List Int) 0) = some r := h
 clear h; have H' := Aside0.mk H; clear H
 go_enter Try.func29, Try.ntmps29
 go_wp2
 go_loopg [2, 7, 8] k (fun kq v2 v7 v8 w' => ∃ (x2_1 : Int) (x7_1 : List Int) (x8_1 : Int), v2 = .int .i64 x2_1 ∧ v8 = .int .i64 x8_1 ∧ Aside0 (exegeteref14_Texts.l0 kq l0 l1 x2_1 x7_1 x8_1 = some r) ∧ Aside0 (kq ≤ k) ∧ Aside0 (Kd.R (Kd.int .i64) 3 w' w.heap.size (fun _ => True) v7 x7_1) ∧ Aside0 (Below w.heap.size w w'))
 case atStart => exact ⟨(a2), (([] : List Int)), (0), (by first | rfl | (simp; done) | (simp [*]; done) | (simp [*, bne]; done)), (by first | rfl | (simp; done) | (simp [*]; done) | (simp [*, bne]; done)), H', ⟨Nat.le_refl _⟩, ⟨by first | exact Kd.R_nil _ _ _ _ _ | exact Kd.N_nil _ _ _ _ _ | exact Kd.V_nil _ _ _ _ _ | exact Kd.Q_nil _ _ _ _ _ | exact Kd.S_nil _ _ _ _ _⟩, ⟨wU HB.out⟩⟩
 case round =>
  clear H'; (try clear c1); (try clear c2); (try clear p2)
  obtain ⟨x2_1, x7_1, x8_1, rfl, rfl, HA, HK1, HO_7, HB⟩ := hrel
  cases gk with
  | zero => exact absurd HA.out (by simp [exegeteref14_Texts.l0])
  | succ k1 =>
   have H := HA.out
   clear HA
   simp only [exegeteref14_Texts.l0] at H
   by_cases c4 : x8_1 < (l0.length : Int)
   rotate_left
   · rw [if_neg c4] at H
     have c4b0 : decide (x8_1 < (l0.length : Int)) = false := decide_eq_false c4
     clear c4
     obtain rfl := Option.some.inj H
     go_wp2
     go_ret
     exact ⟨_, by first | rfl | (simp [errW_none, errW_some] <;> rfl) | (simp [*, errW_none, errW_some] <;> rfl), rU HO_7.out, wU HB.out⟩
   rw [if_pos c4] at H
   have c4b0 : decide (x8_1 < (l0.length : Int)) = true := decide_eq_true c4
   clear c4
   by_cases c5 : 0 ≤ x8_1
   rotate_left
   · rw [if_neg c5] at H
     exact absurd H (by simp)
   rw [if_pos c5] at H
   have c5b0 : decide (0 ≤ x8_1) = true := decide_eq_true c5
   clear c5
   replace H := Option.bind_eq_some_iff.mp H
   obtain ⟨⟨t273, t274⟩, A60, H⟩ := H
   replace H : (if t274 = true then (if x7_1.length < 17592186044416 then (exegeteref14_Texts.l0 k1 l0 l1 (wrap64 (x2_1 + t273)) (x7_1 ++ [wrap64 (x2_1 + t273)]) (wrap64 (x8_1 + 1))) else (none)) else (some x7_1)) = some r := H
   have A6 := Aside0.mk A60
   clear A60
   by_cases c7 : t274 = true
   rotate_left
   · replace c7 := Bool.eq_false_iff.mpr c7
     subst c7
     have H1 : (some x7_1) = some r := by rw [if_neg (show ¬ (false = true) by decide)] at H; exact H
     clear H; have H := H1; clear H1
     obtain rfl := Option.some.inj H
     have p272 : 0 ≤ (x8_1 : Int) := of_decide_eq_true (by first | (with_reducible assumption) | assumption)
     have q272 : x8_1 < (l0.length : Int) := of_decide_eq_true (by first | (with_reducible assumption) | assumption)
     obtain ⟨ad272, A272_1, c272_1, e272, hx272_0, hx272_1, hx272_2, hl272_1, hi272_1⟩ := at_T43 HR0.out x8_1 p272 q272
     cases e272
     replace hx272_0 := (HB.out.cell (World.block_lt_of_cell? w _ hx272_0)).trans hx272_0
     replace hx272_1 := (HB.out.cell (World.block_lt_of_cell? w _ hx272_1)).trans hx272_1
     replace hx272_2 := (HB.out.cell (World.block_lt_of_cell? w _ hx272_2)).trans hx272_2
     have HR272_1 := Aside0.mk hi272_1
     have HC272_1 := Aside0.mk hl272_1
     clear hi272_1 hl272_1; replace p272 := eq_true p272; replace q272 := eq_true q272
     go_wp2_with (first | ((with_reducible refine gate_callee (f := 26) rfl ?_); refine goesL_ (some 24) rfl rfl Try.func26 (by kernel_rfl) rfl #[.agg #[.int .i64 ((rd_T43 l0 x8_1).f0), .slice A272_1 ((rd_T43 l0 x8_1).f1).length c272_1, .int .i64 ((rd_T43 l0 x8_1).f2)], .slice A1 l1.length c1, .int .i64 x2_1] rfl (by (try simp only [List.map_toArray, List.map_cons, List.map_nil]); first | done | rfl | (simp only [List.length_drop, List.length_take]; rfl)) ?_; (with_reducible refine (exegeteref14_Match.calls k1 ((rd_T43 l0 x8_1).f0) _ _ ((rd_T43 l0 x8_1).f1) ((rd_T43 l0 x8_1).f2) _ _ l1 x2_1 t273 false _ ?side1 ?side2 ?side3 ?side4 A6.out).mono ?_); (case side1 => exact cU (Kd.C_below HR272_1.out HB.out)); (case side2 => exact HC272_1.out); (case side3 => exact cU (Kd.C_below HR1.out HB.out)); (case side4 => exact HC1.out); rintro e w11 ⟨rfl, hb⟩; refine ⟨_, rfl, ?_⟩; have n0_ := Aside0.mk (Kd.R_below (rU HO_7.out) hb); have n1_ := Aside0.mk (below_step (wU HB.out) hb); clear HO_7; clear HB; have HO_7 := n0_; have HB := n1_; clear n0_ n1_; (try clear hb); (try clear hb2); (try clear hk); (try clear hi)))
     go_ret
     exact ⟨_, by first | rfl | (simp [errW_none, errW_some] <;> rfl) | (simp [*, errW_none, errW_some] <;> rfl), rU HO_7.out, wU HB.out⟩
   subst c7
   have H1 : (if x7_1.length < 17592186044416 then (exegeteref14_Texts.l0 k1 l0 l1 (wrap64 (x2_1 + t273)) (x7_1 ++ [wrap64 (x2_1 + t273)]) (wrap64 (x8_1 + 1))) else (none)) = some r := by rw [if_pos rfl] at H; exact H
   clear H; have H := H1; clear H1
   by_cases c8 : x7_1.length < 17592186044416
   rotate_left
   · rw [if_neg c8] at H
     exact absurd H (by simp)
   rw [if_pos c8] at H
   have LMc8 := Aside0.mk c8
   clear c8
   obtain ⟨y275, hy275⟩ : ∃ y_ : List Int, y_ = (x7_1 ++ [wrap64 (x2_1 + t273)]) := ⟨_, rfl⟩
   replace H : (exegeteref14_Texts.l0 k1 l0 l1 (wrap64 (x2_1 + t273)) y275 (wrap64 (x8_1 + 1))) = some r := by first | (rw [hy275]; with_reducible exact H) | (have H2_ := (Option.bind_some _ _).symm.trans H; rw [hy275]; with_reducible exact H2_) | (have H2_ := (Option.bind_some _ _).symm.trans H; with_reducible exact H2_) | with_reducible exact H | (rw [hy275]; exact H) | exact H
   have Ny275 := Aside0.mk hy275
   clear hy275; have H' := Aside0.mk H; clear H
   have p272 : 0 ≤ (x8_1 : Int) := of_decide_eq_true (by first | (with_reducible assumption) | assumption)
   have q272 : x8_1 < (l0.length : Int) := of_decide_eq_true (by first | (with_reducible assumption) | assumption)
   obtain ⟨ad272, A272_1, c272_1, e272, hx272_0, hx272_1, hx272_2, hl272_1, hi272_1⟩ := at_T43 HR0.out x8_1 p272 q272
   cases e272
   replace hx272_0 := (HB.out.cell (World.block_lt_of_cell? w _ hx272_0)).trans hx272_0
   replace hx272_1 := (HB.out.cell (World.block_lt_of_cell? w _ hx272_1)).trans hx272_1
   replace hx272_2 := (HB.out.cell (World.block_lt_of_cell? w _ hx272_2)).trans hx272_2
   have HR272_1 := Aside0.mk hi272_1
   have HC272_1 := Aside0.mk hl272_1
   clear hi272_1 hl272_1; replace p272 := eq_true p272; replace q272 := eq_true q272
   go_wp2_with (first | ((with_reducible refine gate_callee (f := 26) rfl ?_); refine goesL_ (some 24) rfl rfl Try.func26 (by kernel_rfl) rfl #[.agg #[.int .i64 ((rd_T43 l0 x8_1).f0), .slice A272_1 ((rd_T43 l0 x8_1).f1).length c272_1, .int .i64 ((rd_T43 l0 x8_1).f2)], .slice A1 l1.length c1, .int .i64 x2_1] rfl (by (try simp only [List.map_toArray, List.map_cons, List.map_nil]); first | done | rfl | (simp only [List.length_drop, List.length_take]; rfl)) ?_; (with_reducible refine (exegeteref14_Match.calls k1 ((rd_T43 l0 x8_1).f0) _ _ ((rd_T43 l0 x8_1).f1) ((rd_T43 l0 x8_1).f2) _ _ l1 x2_1 t273 true _ ?side1 ?side2 ?side3 ?side4 A6.out).mono ?_); (case side1 => exact cU (Kd.C_below HR272_1.out HB.out)); (case side2 => exact HC272_1.out); (case side3 => exact cU (Kd.C_below HR1.out HB.out)); (case side4 => exact HC1.out); rintro e w9 ⟨rfl, hb⟩; refine ⟨_, rfl, ?_⟩; have n0_ := Aside0.mk (Kd.R_below (rU HO_7.out) hb); have n1_ := Aside0.mk (below_step (wU HB.out) hb); clear HO_7; clear HB; have HO_7 := n0_; have HB := n1_; clear n0_ n1_; (try clear hb); (try clear hb2); (try clear hk); (try clear hi)) | ((with_reducible refine gate_builtin (b := .append) (xs := #[.tmp 33, .tmp 35]) rfl ?_); at_builtin; refine Kd.R_append (Kd.int .i64) (w0 := w) w.heap.size rfl (.tmp 33) (.tmp 35) 48 3 (.int .i64 0) 8 rfl Try.underlying48 info3 rfl (by decide) (by omega) u7 x7_1 (wrap64 (x2_1 + t273)) [.int .i64 (wrap64 (x2_1 + t273))] (fun _ => True) (fun _ => False) rfl rfl ?aP (fun _ hk => hk.elim) ?aF ?aO ?aB ?aS ?aL ?_; (case aP => exact rfl); (case aB => exact (wU HB.out)); (case aF => exact (fun _ _ => trivial)); (case aO => exact (rU HO_7.out)); (case aS => exact (below_size (wU HB.out))); (case aL => have := LMc8.out; omega); intro v276 w10 ho hb hg hat; rw [← Ny275.out] at ho; have n0_ := Aside0.mk (hb); have n1_ := Aside0.mk (ho); clear HB; clear HO_7; have HB := n0_; have HO277 := n1_; clear n0_ n1_; clear ho hb hg hat))
   go_roundg k1
   case measure => have := HK1.out; omega
   case rel => exact ⟨(wrap64 (x2_1 + t273)), (y275), (wrap64 (x8_1 + 1)), (by first | rfl | (simp; done) | (simp [*]; done) | (simp [*, bne]; done)), (by first | rfl | (simp; done) | (simp [*]; done) | (simp [*, bne]; done)), H', ⟨by have := HK1.out; omega⟩, ⟨rU HO277.out⟩, ⟨wU HB.out⟩⟩
def exegeteref03_fits.l0 : Nat → List (S35) → List Int → Int → Int → Option (Int)
  | 0, _, _, _, _ => none
  | k + 1, x0, x1, x2, x7 => if x7 < (x0.length : Int) then (if (wrap64 (x2 + x7)) ≥ (x1.length : Int) then (some x7) else (if 0 ≤ (wrap64 (x2 + x7)) then (if (wrap64 (x2 + x7)) < (x1.length : Int) then (if 0 ≤ x7 then (if (wrap64 (rd x1 (wrap64 (x2 + x7)))) < ((rd_T35 x0 x7).f0) then (some x7) else (if (wrap64 (rd x1 (wrap64 (x2 + x7)))) > ((rd_T35 x0 x7).f1) then (some x7) else (exegeteref03_fits.l0 k x0 x1 x2 (wrap64 (x7 + 1))))) else (none)) else (none)) else (none))) else (some (x0.length : Int))
def exegeteref03_fits.f (k : Nat) (l0 : List (S35)) (l1 : List Int) (a2 : Int) : Option (Int) := exegeteref03_fits.l0 k l0 l1 a2 0
set_option maxHeartbeats 8000000 in
set_option maxRecDepth 100000 in
theorem exegeteref03_fits.calls (k : Nat) (A0 : Option Addr) (c0 : Nat) (l0 : List (S35)) (A1 : Option Addr) (c1 : Nat) (l1 : List Int) (a2 : Int) (r : Int) (w : World) (hr0 : Kd.C k35 w A0 l0.length l0) (hc0 : l0.length ≤ c0) (hr1 : Kd.C (Kd.int .u8) w A1 l1.length l1) (hc1 : l1.length ≤ c1) (h : exegeteref03_fits.f k l0 l1 a2 = some r) :
 Calls Try.prog 66 #[.slice A0 l0.length c0, .slice A1 l1.length c1, .int .i64 a2] w fun e w' => e = .returned (.int .i64 r) ∧ Drawn0 w w' := by
 have HR0 := Aside0.mk hr0
 have HC0 := Aside0.mk hc0
 clear hr0 hc0
 have HR1 := Aside0.mk hr1
 have HC1 := Aside0.mk hc1
 clear hr1 hc1
 have H : (exegeteref03_fits.l0 k l0 l1 a2 0) = some r := h
 clear h; have H' := Aside0.mk H; clear H
 go_enter Try.func66, Try.ntmps66
 go_wp2
 repeat (go_quiet (fail); try go_wp2)
 go_loopg [7] k (fun kq v7 w' => ∃ (x7_1 : Int), v7 = .int .i64 x7_1 ∧ Aside0 (exegeteref03_fits.l0 kq l0 l1 a2 x7_1 = some r) ∧ Aside0 (kq ≤ k) ∧ Drawn0 w w')
 case atStart => exact ⟨(0), (by first | rfl | (simp; done) | (simp [*]; done) | (simp [*, bne]; done)), H', ⟨Nat.le_refl _⟩, by repeat (first | exact Drawn0.refl _ | apply Drawn0.step)⟩
 case round =>
  clear H'; (try clear c1); (try clear p2)
  obtain ⟨x7_1, rfl, HA, HK1, ⟨m1, rfl⟩⟩ := hrel
  cases gk with
  | zero => exact absurd HA.out (by simp [exegeteref03_fits.l0])
  | succ k1 =>
   have H := HA.out
   clear HA
   simp only [exegeteref03_fits.l0] at H
   by_cases c4 : x7_1 < (l0.length : Int)
   rotate_left
   · rw [if_neg c4] at H
     have c4b0 : decide (x7_1 < (l0.length : Int)) = false := decide_eq_false c4
     clear c4
     obtain rfl := Option.some.inj H
     go_wp2
     repeat (go_quiet (fail); try go_wp2)
     go_ret
     exact ⟨by first | rfl | (simp; done) | (simp [*]; done), by repeat (first | exact Drawn0.refl _ | apply Drawn0.step)⟩
   rw [if_pos c4] at H
   have c4b0 : decide (x7_1 < (l0.length : Int)) = true := decide_eq_true c4
   clear c4
   by_cases c5 : (wrap64 (a2 + x7_1)) ≥ (l1.length : Int)
   · rw [if_pos c5] at H
     have c5b0 : decide ((l1.length : Int) ≤ (wrap64 (a2 + x7_1))) = true := decide_eq_true c5
     clear c5
     obtain rfl := Option.some.inj H
     go_wp2
     repeat (go_quiet (fail); try go_wp2)
     go_ret
     exact ⟨by first | rfl | (simp; done) | (simp [*]; done), by repeat (first | exact Drawn0.refl _ | apply Drawn0.step)⟩
   rw [if_neg c5] at H
   have c5b0 : decide ((l1.length : Int) ≤ (wrap64 (a2 + x7_1))) = false := decide_eq_false c5
   clear c5
   obtain ⟨ji6, hji6⟩ : ∃ j_ : Int, (wrap64 (a2 + x7_1)) = j_ := ⟨_, rfl⟩
   replace H : (if 0 ≤ (ji6) then (if (ji6) < (l1.length : Int) then (if 0 ≤ x7_1 then (if (wrap64 (rd l1 (ji6))) < ((rd_T35 l0 x7_1).f0) then (some x7_1) else (if (wrap64 (rd l1 (ji6))) > ((rd_T35 l0 x7_1).f1) then (some x7_1) else (exegeteref03_fits.l0 k1 l0 l1 a2 (wrap64 (x7_1 + 1))))) else (none)) else (none)) else (none)) = some r := by first | (rw [hji6] at H; exact H) | (simp only [hji6] at H ⊢; exact H)
   (try rw [hji6] at c5b0)
   have hji6w : (IntKind.i64.wrap (a2 + x7_1)) = ji6 := (i64_w _).trans hji6
   by_cases c7 : 0 ≤ (ji6)
   rotate_left
   · rw [if_neg c7] at H
     exact absurd H (by simp)
   rw [if_pos c7] at H
   have c7b0 : decide (0 ≤ (ji6)) = true := decide_eq_true c7
   clear c7
   by_cases c8 : (ji6) < (l1.length : Int)
   rotate_left
   · rw [if_neg c8] at H
     exact absurd H (by simp)
   rw [if_pos c8] at H
   have c8b0 : decide ((ji6) < (l1.length : Int)) = true := decide_eq_true c8
   clear c8
   by_cases c9 : 0 ≤ x7_1
   rotate_left
   · rw [if_neg c9] at H
     exact absurd H (by simp)
   rw [if_pos c9] at H
   have c9b0 : decide (0 ≤ x7_1) = true := decide_eq_true c9
   clear c9
   by_cases c10 : (wrap64 (rd l1 (ji6))) < ((rd_T35 l0 x7_1).f0)
   · rw [if_pos c10] at H
     have c10b0 : decide ((wrap64 (rd l1 (ji6))) < ((rd_T35 l0 x7_1).f0)) = true := decide_eq_true c10
     clear c10
     obtain rfl := Option.some.inj H
     have p278 : 0 ≤ ((ji6) : Int) := of_decide_eq_true (by first | (with_reducible assumption) | assumption)
     have q278 : (ji6) < (l1.length : Int) := of_decide_eq_true (by first | (with_reducible assumption) | assumption)
     obtain ⟨ad278, e278, hx278_0⟩ := Kd.at_int HR1.out (ji6) p278 q278
     cases e278; replace p278 := eq_true p278; replace q278 := eq_true q278
     have p279 : 0 ≤ (x7_1 : Int) := of_decide_eq_true (by first | (with_reducible assumption) | assumption)
     have q279 : x7_1 < (l0.length : Int) := of_decide_eq_true (by first | (with_reducible assumption) | assumption)
     obtain ⟨ad279, e279, hx279_0, hx279_1⟩ := at_T35 HR0.out x7_1 p279 q279
     cases e279; replace p279 := eq_true p279; replace q279 := eq_true q279
     go_wp2
     repeat (go_quiet (fail); try go_wp2)
     go_ret
     exact ⟨by first | rfl | (simp; done) | (simp only [← hji6] <;> (first | rfl | simp)) | (simp [*]; done), by repeat (first | exact Drawn0.refl _ | apply Drawn0.step)⟩
   rw [if_neg c10] at H
   have c10b0 : decide ((wrap64 (rd l1 (ji6))) < ((rd_T35 l0 x7_1).f0)) = false := decide_eq_false c10
   clear c10
   by_cases c11 : (wrap64 (rd l1 (ji6))) > ((rd_T35 l0 x7_1).f1)
   · rw [if_pos c11] at H
     have c11b0 : decide (((rd_T35 l0 x7_1).f1) < (wrap64 (rd l1 (ji6)))) = true := decide_eq_true c11
     clear c11
     obtain rfl := Option.some.inj H
     have p278 : 0 ≤ ((ji6) : Int) := of_decide_eq_true (by first | (with_reducible assumption) | assumption)
     have q278 : (ji6) < (l1.length : Int) := of_decide_eq_true (by first | (with_reducible assumption) | assumption)
     obtain ⟨ad278, e278, hx278_0⟩ := Kd.at_int HR1.out (ji6) p278 q278
     cases e278; replace p278 := eq_true p278; replace q278 := eq_true q278
     have p279 : 0 ≤ (x7_1 : Int) := of_decide_eq_true (by first | (with_reducible assumption) | assumption)
     have q279 : x7_1 < (l0.length : Int) := of_decide_eq_true (by first | (with_reducible assumption) | assumption)
     obtain ⟨ad279, e279, hx279_0, hx279_1⟩ := at_T35 HR0.out x7_1 p279 q279
     cases e279; replace p279 := eq_true p279; replace q279 := eq_true q279
     have p280 : 0 ≤ ((ji6) : Int) := of_decide_eq_true (by first | (with_reducible assumption) | assumption)
     have q280 : (ji6) < (l1.length : Int) := of_decide_eq_true (by first | (with_reducible assumption) | assumption)
     obtain ⟨ad280, e280, hx280_0⟩ := Kd.at_int HR1.out (ji6) p280 q280
     obtain rfl : ad278 = ad280 := (by injection e280)
     replace p280 := eq_true p280; replace q280 := eq_true q280
     have p281 : 0 ≤ (x7_1 : Int) := of_decide_eq_true (by first | (with_reducible assumption) | assumption)
     have q281 : x7_1 < (l0.length : Int) := of_decide_eq_true (by first | (with_reducible assumption) | assumption)
     obtain ⟨ad281, e281, hx281_0, hx281_1⟩ := at_T35 HR0.out x7_1 p281 q281
     obtain rfl : ad279 = ad281 := (by injection e281)
     replace p281 := eq_true p281; replace q281 := eq_true q281
     go_wp2
     repeat (go_quiet (fail); try go_wp2)
     go_ret
     exact ⟨by first | rfl | (simp; done) | (simp only [← hji6] <;> (first | rfl | simp)) | (simp [*]; done), by repeat (first | exact Drawn0.refl _ | apply Drawn0.step)⟩
   rw [if_neg c11] at H
   have c11b0 : decide (((rd_T35 l0 x7_1).f1) < (wrap64 (rd l1 (ji6)))) = false := decide_eq_false c11
   clear c11; have H' := Aside0.mk H; clear H
   have p278 : 0 ≤ ((ji6) : Int) := of_decide_eq_true (by first | (with_reducible assumption) | assumption)
   have q278 : (ji6) < (l1.length : Int) := of_decide_eq_true (by first | (with_reducible assumption) | assumption)
   obtain ⟨ad278, e278, hx278_0⟩ := Kd.at_int HR1.out (ji6) p278 q278
   cases e278; replace p278 := eq_true p278; replace q278 := eq_true q278
   have p279 : 0 ≤ (x7_1 : Int) := of_decide_eq_true (by first | (with_reducible assumption) | assumption)
   have q279 : x7_1 < (l0.length : Int) := of_decide_eq_true (by first | (with_reducible assumption) | assumption)
   obtain ⟨ad279, e279, hx279_0, hx279_1⟩ := at_T35 HR0.out x7_1 p279 q279
   cases e279; replace p279 := eq_true p279; replace q279 := eq_true q279
   have p280 : 0 ≤ ((ji6) : Int) := of_decide_eq_true (by first | (with_reducible assumption) | assumption)
   have q280 : (ji6) < (l1.length : Int) := of_decide_eq_true (by first | (with_reducible assumption) | assumption)
   obtain ⟨ad280, e280, hx280_0⟩ := Kd.at_int HR1.out (ji6) p280 q280
   obtain rfl : ad278 = ad280 := (by injection e280)
   replace p280 := eq_true p280; replace q280 := eq_true q280
   have p281 : 0 ≤ (x7_1 : Int) := of_decide_eq_true (by first | (with_reducible assumption) | assumption)
   have q281 : x7_1 < (l0.length : Int) := of_decide_eq_true (by first | (with_reducible assumption) | assumption)
   obtain ⟨ad281, e281, hx281_0, hx281_1⟩ := at_T35 HR0.out x7_1 p281 q281
   obtain rfl : ad279 = ad281 := (by injection e281)
   replace p281 := eq_true p281; replace q281 := eq_true q281
   go_wp2
   repeat (go_quiet (fail); try go_wp2)
   go_roundg k1
   case measure => have := HK1.out; omega
   case rel => exact ⟨(wrap64 (x7_1 + 1)), (by first | rfl | (simp; done) | (simp [*]; done) | (simp [*, bne]; done)), (by first | exact H' | (subst hji6; exact H')), ⟨by have := HK1.out; omega⟩, by repeat (first | exact Drawn0.refl _ | apply Drawn0.step)⟩
end Go.Proofs.Ytcdahnkdongmdaa.All
