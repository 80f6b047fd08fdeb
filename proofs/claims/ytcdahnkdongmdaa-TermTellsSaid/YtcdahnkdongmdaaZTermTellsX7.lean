/- Texts of the claim TermTells, merged, without what it does not use. -/
import Derived.Test.YtcdahnkdongmdaaZTermTellsX1
import Derived.Test.YtcdahnkdongmdaaZTermTellsX6
namespace Go.Proofs.Ytcdahnkdongmdaa.All
open Go.RowKit Go.Proofs.YtcdahnkdongmdaaW.PrintWords Go.Proofs.YtcdahnkdongmdaaW.PrintLast Go.Proofs.YtcdahnkdongmdaaW.PrintMore
attribute [local go_sem] max2_int min2_int max_two min_two
set_option linter.unusedVariables false
set_option linter.unusedSimpArgs false
def seqs_one.l0 : Nat → List Int → List Int → List (S35) → Int → Int → Option ((List (S35)))
  | 0, _, _, _, _, _ => none
  | k + 1, x3, x5, x7, x22, x23 => if x23 < x22 then (if 0 ≤ x23 then (if x23 < (x3.length : Int) then (if x23 < (x5.length : Int) then (if x7.length < 8796093022208 then (seqs_one.l0 k x3 x5 (x7 ++ [(⟨wrap64 (rd x3 x23), wrap64 (rd x5 x23)⟩ : S35)]) x22 (wrap64 (x23 + 1))) else (none)) else (none)) else (none)) else (none)) else (some x7)
def seqs_one.f (k : Nat) (a0_0 : Int) (a0_1 : Int) : Option ((List (S35))) := (utf_Put.f a0_0).bind fun bt123 => ((utf_Put.f a0_1).bind fun bt127 => (seqs_one.l0 k bt123.1 bt127.1 ([] : List (S35)) (bt123.1.length : Int) 0))
def seqs_one.T7 : Bool × List (List Nat × List Nat) := (true, [([], []), ([], []), ([], []), ([1, 2], [1, 2]), ([3], [3]), ([4], [4]), ([], []), ([], []), ([6, 7], [6, 7]), ([8], [8]), ([9], [9]), ([5, 10], [5, 10]), ([11], [11]), ([0, 12], [0, 12]), ([13, 13, 0, 1, 2, 3, 4, 5, 6, 7, 8, 9, 10, 11, 12, 13], [0, 13])])
def seqs_one.B7 : List Nat := [0, 0, 0, 6, 14, 30, 0, 0, 192, 448, 960, 2046, 4094, 8191, 16383]
theorem seqs_one.tab7 : rtab .any (opsOf Try.f39 7) = seqs_one.T7 := by kernel_rfl
theorem seqs_one.bits7 : waitsOk seqs_one.T7.2 seqs_one.B7 = true := by kernel_rfl
set_option maxHeartbeats 8000000 in
set_option maxRecDepth 100000 in
theorem seqs_one.calls (k : Nat) (a0_0 : Int) (a0_1 : Int) (r : List (S35)) (w : World) (h : seqs_one.f k a0_0 a0_1 = some r) :
 Calls Try.prog 39 #[.agg #[.int .i64 a0_0, .int .i64 a0_1]] w fun e w' => ∃ v0_ : Value, e = .returned (v0_) ∧ Kd.R k35 35 w' w.heap.size (fun _ => True) v0_ r ∧ Below w.heap.size w w' := by
 have hu35 := Try.underlying35
 have HB := Aside0.mk (Below.refl w.heap.size w)
 have H : ((utf_Put.f a0_0).bind fun bt123 => ((utf_Put.f a0_1).bind fun bt127 => (seqs_one.l0 k bt123.1 bt127.1 ([] : List (S35)) (bt123.1.length : Int) 0))) = some r := h
 clear h
 replace H := Option.bind_eq_some_iff.mp H
 obtain ⟨⟨t123, t124⟩, A20, H⟩ := H
 replace H : ((utf_Put.f a0_1).bind fun bt127 => (seqs_one.l0 k t123 bt127.1 ([] : List (S35)) (t123.length : Int) 0)) = some r := H
 have A2 := Aside0.mk A20
 clear A20
 replace H := Option.bind_eq_some_iff.mp H
 obtain ⟨⟨t127, t128⟩, A30, H⟩ := H
 replace H : (seqs_one.l0 k t123 t127 ([] : List (S35)) (t123.length : Int) 0) = some r := H
 have A3 := Aside0.mk A30
 clear A30; have H' := Aside0.mk H; clear H
 go_enter Try.func39, Try.ntmps39
 go_wp2_with (first | ((with_reducible refine gate_dst (N := 1) rfl ?_); refine box_event ?hg (N := 1) ?hd (cs := #[.int .i64 a0_0, .int .i64 a0_1]) (t := 35) ?hr ?_; (case hd => rfl); (case hg => rfl); (case hr => first | (go_simp; done) | (go_simp; rfl)); intro gb122 hg w4 hbox hb; have n0_ := Aside0.mk (below_step (wU HB.out) hb); have n1_ := Aside0.mk (hbox); have n2_ := Aside0.mk ((by rw [hg]; exact (below_size (wU HB.out)) : w.heap.size ≤ gb122)); have n3_ := Aside0.mk ((by rw [hg]; exact (below_size (wU HB.out)) : w.heap.size ≤ gb122)); clear HB; have HB := n0_; have BK122 := n1_; have GW122 := n2_; have GE122 := n3_; clear n0_ n1_ n2_ n3_; clear hb hbox hg; have hcz5_0 : w4.cell? ⟨gb122, 0, none⟩ = some (.int .i64 a0_0) := (blk_cell BK122.out 0).trans rfl; have hcz5_1 : w4.cell? ⟨gb122, 1, none⟩ = some (.int .i64 a0_1) := (blk_cell BK122.out 1).trans rfl; have hfz5_0 := blk_frozen BK122.out 0; have hfz5_1 := blk_frozen BK122.out 1) | ((with_reducible refine gate_callee (f := 15) rfl ?_); refine goesL_ (some 12) rfl rfl Try.func15 (by kernel_rfl) rfl #[.int .i64 a0_0] rfl (by (try simp only [List.map_toArray, List.map_cons, List.map_nil]); first | done | rfl | (simp only [List.length_drop, List.length_take]; rfl)) ?_; (with_reducible refine (utf_Put.calls a0_0 t123 t124 _ A2.out).mono ?_); rintro e w6 ⟨v125, rfl, ho0, hb⟩; refine ⟨_, rfl, ?_⟩; have n0_ := Aside0.mk (Kd.R_lower ho0 (below_size (wV HB.out GE122.out))); have n1_ := Aside0.mk (blk_below (g := gb122) (o := .cells #[.int .i64 a0_0, .int .i64 a0_1] 35 (0, 0)) (bU BK122.out) hb); have n2_ := Aside0.mk (below_step (wV HB.out GE122.out) hb); clear BK122; clear HB; have HO126 := n0_; have BK122 := n1_; have HB := n2_; clear n0_ n1_ n2_; (try clear hb); (try clear hb2); (try clear hk); (try clear hi); (try clear ho0); have hcz7_0 : w6.cell? ⟨gb122, 0, none⟩ = some (.int .i64 a0_0) := (blk_cell BK122.out 0).trans rfl; have hcz7_1 : w6.cell? ⟨gb122, 1, none⟩ = some (.int .i64 a0_1) := (blk_cell BK122.out 1).trans rfl; have hfz7_0 := blk_frozen BK122.out 0; have hfz7_1 := blk_frozen BK122.out 1) | ((with_reducible refine gate_callee (f := 15) rfl ?_); refine goesL_ (some 18) rfl rfl Try.func15 (by kernel_rfl) rfl #[.int .i64 a0_1] rfl (by (try simp only [List.map_toArray, List.map_cons, List.map_nil]); first | done | rfl | (simp only [List.length_drop, List.length_take]; rfl)) ?_; (with_reducible refine (utf_Put.calls a0_1 t127 t128 _ A3.out).mono ?_); rintro e w8 ⟨v129, rfl, ho0, hb⟩; refine ⟨_, rfl, ?_⟩; have n0_ := Aside0.mk (Kd.R_elder' (rU HO126.out) (Kd.R_base ho0) hb); have n1_ := Aside0.mk (Kd.R_lower (Kd.R_new' ho0 (Kd.R_lt (rU HO126.out))) (below_size (wV HB.out GE122.out))); have n2_ := Aside0.mk (blk_below (g := gb122) (o := .cells #[.int .i64 a0_0, .int .i64 a0_1] 35 (0, 0)) (bU BK122.out) hb); have n3_ := Aside0.mk (below_step (wV HB.out GE122.out) hb); clear HO126; clear BK122; clear HB; have HO126 := n0_; have HO130 := n1_; have BK122 := n2_; have HB := n3_; clear n0_ n1_ n2_ n3_; (try clear hb); (try clear hb2); (try clear hk); (try clear hi); (try clear ho0); obtain ⟨Ao9, co9, eo9⟩ := Kd.R_slice HO126.out; subst eo9))
 go_loopg [7, 23] k (fun kq v7 v23 w' => ∃ (x7_1 : List (S35)) (x23_1 : Int), v23 = .int .i64 x23_1 ∧ Aside0 (seqs_one.l0 kq t123 t127 x7_1 (t123.length : Int) x23_1 = some r) ∧ Aside0 (kq ≤ k) ∧ Aside0 (Kd.R (Kd.int .u8) 5 w' w.heap.size (fun k_ => some k_ ≠ (v129 : Value).ownBlock) (.slice Ao9 t123.length co9) t123) ∧ Aside0 (Kd.R (Kd.int .u8) 5 w' w.heap.size (fun k_ => some k_ ≠ ((.slice Ao9 t123.length co9) : Value).ownBlock) v129 t127) ∧ Aside0 (Kd.R k35 35 w' w.heap.size (fun k_ => k_ ≠ gb122) v7 x7_1) ∧ Aside0 (w'.heap[gb122]? = some (.cells #[.int .i64 a0_0, .int .i64 a0_1] 35 (0, 0))) ∧ Aside0 (Below w.heap.size w w'))
 case atStart => exact ⟨(([] : List (S35))), (0), (by first | rfl | (simp; done) | (simp [*]; done) | (simp [*, bne]; done)), H', ⟨Nat.le_refl _⟩, ⟨by (with_reducible repeat (first | apply Kd.R_alloc | apply Kd.R_drewN | apply Kd.R_drew)); exact Kd.R_mono HO126.out (fun _ hk => hk.2)⟩, ⟨by (with_reducible repeat (first | apply Kd.R_alloc | apply Kd.R_drewN | apply Kd.R_drew)); exact Kd.R_mono HO130.out (fun _ hk => hk.2)⟩, ⟨by first | exact Kd.R_nil _ _ _ _ _ | exact Kd.N_nil _ _ _ _ _ | exact Kd.V_nil _ _ _ _ _ | exact Kd.Q_nil _ _ _ _ _ | exact Kd.S_nil _ _ _ _ _⟩, ⟨bU BK122.out⟩, ⟨wV HB.out GE122.out⟩⟩
 case round =>
  clear H'; (try clear c1); (try clear p2); (try clear c3); (try clear hcz5_0); (try clear hcz5_1); (try clear hcz7_0); (try clear hcz7_1); (try clear hfz5_0); (try clear hfz5_1); (try clear hfz7_0); (try clear hfz7_1)
  obtain ⟨x7_1, x23_1, rfl, HA, HK1, HO_3, HO_5, HO_7, BK122, HB⟩ := hrel
  cases gk with
  | zero => exact absurd HA.out (by simp [seqs_one.l0])
  | succ k1 =>
   have H := HA.out
   clear HA
   simp only [seqs_one.l0] at H
   by_cases c10 : x23_1 < (t123.length : Int)
   rotate_left
   · rw [if_neg c10] at H
     have c10b0 : decide (x23_1 < (t123.length : Int)) = false := decide_eq_false c10
     clear c10
     obtain rfl := Option.some.inj H
     go_wp2
     go_ret
     exact ⟨_, by first | rfl | (simp [errW_none, errW_some] <;> rfl) | (simp [*, errW_none, errW_some] <;> rfl), by (with_reducible repeat (first | apply Kd.R_alloc | apply Kd.R_drewN | apply Kd.R_drew)); exact Kd.R_mono HO_7.out (fun _ hk => trivial), wV HB.out GE122.out⟩
   rw [if_pos c10] at H
   have c10b0 : decide (x23_1 < (t123.length : Int)) = true := decide_eq_true c10
   clear c10
   by_cases c11 : 0 ≤ x23_1
   rotate_left
   · rw [if_neg c11] at H
     exact absurd H (by simp)
   rw [if_pos c11] at H
   have c11b0 : decide (0 ≤ x23_1) = true := decide_eq_true c11
   clear c11
   by_cases c12 : x23_1 < (t123.length : Int)
   rotate_left
   · rw [if_neg c12] at H
     exact absurd H (by simp)
   rw [if_pos c12] at H
   have c12b0 : decide (x23_1 < (t123.length : Int)) = true := decide_eq_true c12
   clear c12
   by_cases c13 : x23_1 < (t127.length : Int)
   rotate_left
   · rw [if_neg c13] at H
     exact absurd H (by simp)
   rw [if_pos c13] at H
   have c13b0 : decide (x23_1 < (t127.length : Int)) = true := decide_eq_true c13
   clear c13
   by_cases c14 : x7_1.length < 8796093022208
   rotate_left
   · rw [if_neg c14] at H
     exact absurd H (by simp)
   rw [if_pos c14] at H
   have LMc14 := Aside0.mk c14
   clear c14
   obtain ⟨y133, hy133⟩ : ∃ y_ : List (S35), y_ = (x7_1 ++ [(⟨wrap64 (rd t123 x23_1), wrap64 (rd t127 x23_1)⟩ : S35)]) := ⟨_, rfl⟩
   replace H : (seqs_one.l0 k1 t123 t127 y133 (t123.length : Int) (wrap64 (x23_1 + 1))) = some r := by first | (rw [hy133]; with_reducible exact H) | (have H2_ := (Option.bind_some _ _).symm.trans H; rw [hy133]; with_reducible exact H2_) | (have H2_ := (Option.bind_some _ _).symm.trans H; with_reducible exact H2_) | with_reducible exact H | (rw [hy133]; exact H) | exact H
   have Ny133 := Aside0.mk hy133
   clear hy133; have H' := Aside0.mk H; clear H
   try go_wp2
   have n0_ := Aside0.mk (Kd.R_drew HO_3.out)
   have n1_ := Aside0.mk (Kd.R_drew HO_5.out)
   have n2_ := Aside0.mk (Kd.R_drew HO_7.out)
   have n3_ := Aside0.mk (blk_drew BK122.out)
   have n4_ := Aside0.mk (below_drew1 HB.out)
   clear HO_3 HO_5 HO_7 BK122 HB; have HO_3 := n0_; have HO_5 := n1_; have HO_7 := n2_; have BK122 := n3_; have HB := n4_; clear n0_ n1_ n2_ n3_ n4_
   have p131 : 0 ≤ (x23_1 : Int) := of_decide_eq_true (by first | (with_reducible assumption) | assumption)
   have q131 : x23_1 < (t123.length : Int) := of_decide_eq_true (by first | (with_reducible assumption) | assumption)
   obtain ⟨ad131, e131, hx131_0⟩ := Kd.at_int (Kd.R_reads' HO_3.out).2.2 x23_1 p131 q131
   cases e131; replace p131 := eq_true p131; replace q131 := eq_true q131
   obtain ⟨Ao16, co16, eo16⟩ := Kd.R_slice HO_5.out
   (first | subst eo16 | (injection eo16 with f1_ f2_ f3_; have f4_ := f1_.symm; have f5_ := f3_.symm; clear f1_ f2_ f3_; subst f4_; subst f5_))
   have p132 : 0 ≤ (x23_1 : Int) := of_decide_eq_true (by first | (with_reducible assumption) | assumption)
   have q132 : x23_1 < (t127.length : Int) := of_decide_eq_true (by first | (with_reducible assumption) | assumption)
   obtain ⟨ad132, e132, hx132_0⟩ := Kd.at_int (Kd.R_reads' HO_5.out).2.2 x23_1 p132 q132
   cases e132; replace p132 := eq_true p132; replace q132 := eq_true q132
   refine start_ (n := 15) (S := fun w' => w'.cell? (ad131.add (x23_1).toNat) = some (.int .u8 (rd t123 x23_1)) ∧ w'.cell? (ad132.add (x23_1).toNat) = some (.int .u8 (rd t127 x23_1))) (ds := [12, 13]) #[false, false, false, false, false, false, false, false, false, false, false, false, false, false, false] (by kernel_rfl) rfl rfl ⟨hx131_0, hx132_0⟩ (fun hHeld => ?_); refine with_tabW seqs_one.tab7 seqs_one.bits7 (fun HT_ HW_ => ?_)
   generalize wr.drew = w15 at HO_3 HO_5 HO_7 BK122 HB hx131_0 hx132_0 hHeld ⊢
   refine pure_ (i := 0) (N := some 26) (v := ?_) (a' := ?_) #[true, false, false, false, false, false, false, false, false, false, false, false, false, false, false] rfl rfl (any_of HT_.out (by kernel_rfl)) (fun _ _ _ h => h) (Or.inl ⟨by rfl, ?_⟩) ?_ ?_
   rotate_left
   · intro w'
     go_simp
     with_reducible rfl
   rotate_left
   · simp only [Act.put, qA, qB, qC, i64_w, i32_w]
     rfl
   refine pure_ (i := 1) (N := some 27) (v := ?_) (a' := ?_) #[true, true, false, false, false, false, false, false, false, false, false, false, false, false, false] rfl rfl (any_of HT_.out (by kernel_rfl)) (fun _ _ _ h => h) (Or.inl ⟨by rfl, ?_⟩) ?_ ?_
   rotate_left
   · intro w'
     go_simp
     with_reducible rfl
   rotate_left
   · simp only [Act.put, qA, qB, qC, i64_w, i32_w]
     rfl
   refine pure_ (i := 2) (N := some 28) (v := ?_) (a' := ?_) #[true, true, true, false, false, false, false, false, false, false, false, false, false, false, false] rfl rfl (any_of HT_.out (by kernel_rfl)) (fun _ _ _ h => h) (Or.inl ⟨by rfl, ?_⟩) ?_ ?_
   rotate_left
   · intro w'
     go_simp
     with_reducible rfl
   rotate_left
   · simp only [Act.put, qA, qB, qC, i64_w, i32_w]
     rfl
   refine pure_ (i := 3) (N := some 29) (v := ?_) (a' := ?_) #[true, true, true, true, false, false, false, false, false, false, false, false, false, false, false] rfl rfl (any_of HT_.out (by kernel_rfl)) (fun _ _ _ h => h) (Or.inl ⟨by rfl, ?_⟩) ?_ ?_
   rotate_left
   · intro w'
     go_simp
     with_reducible rfl
   rotate_left
   · simp only [Act.put, qA, qB, qC, i64_w, i32_w]
     rfl
   refine pure_ (i := 6) (N := some 32) (v := ?_) (a' := ?_) #[true, true, true, true, false, false, true, false, false, false, false, false, false, false, false] rfl rfl (any_of HT_.out (by kernel_rfl)) (fun _ _ _ h => h) (Or.inl ⟨by rfl, ?_⟩) ?_ ?_
   rotate_left
   · intro w'
     go_simp
     with_reducible rfl
   rotate_left
   · simp only [Act.put, qA, qB, qC, i64_w, i32_w]
     rfl
   refine pure_ (i := 7) (N := some 33) (v := ?_) (a' := ?_) #[true, true, true, true, false, false, true, true, false, false, false, false, false, false, false] rfl rfl (any_of HT_.out (by kernel_rfl)) (fun _ _ _ h => h) (Or.inl ⟨by rfl, ?_⟩) ?_ ?_
   rotate_left
   · intro w'
     go_simp
     with_reducible rfl
   rotate_left
   · simp only [Act.put, qA, qB, qC, i64_w, i32_w]
     rfl
   refine pure_ (i := 8) (N := some 34) (v := ?_) (a' := ?_) #[true, true, true, true, false, false, true, true, true, false, false, false, false, false, false] rfl rfl (any_of HT_.out (by kernel_rfl)) (fun _ _ _ h => h) (Or.inl ⟨by rfl, ?_⟩) ?_ ?_
   rotate_left
   · intro w'
     go_simp
     with_reducible rfl
   rotate_left
   · simp only [Act.put, qA, qB, qC, i64_w, i32_w]
     rfl
   refine take_ (i := 4) (N := some 30) (v := ?_) (a' := ?_) #[true, true, true, true, true, false, true, true, true, false, false, false, false, false, false] rfl rfl (take_ofW HT_.out HW_.out (by kernel_rfl)) (fun _ _ _ h => h) (Or.inl ⟨by rfl, ?_⟩) hHeld ?_ ?_
   rotate_left
   · rintro w' ⟨s0, s1⟩
     go_simp
     with_reducible rfl
   rotate_left
   · simp only [Act.put, qA, qB, qC, i64_w, i32_w]
     rfl
   refine pure_ (i := 5) (N := some 31) (v := ?_) (a' := ?_) #[true, true, true, true, true, true, true, true, true, false, false, false, false, false, false] rfl rfl (any_of HT_.out (by kernel_rfl)) (fun _ _ _ h => h) (Or.inl ⟨by rfl, ?_⟩) ?_ ?_
   rotate_left
   · intro w'
     go_simp
     with_reducible rfl
   rotate_left
   · simp only [Act.put, qA, qB, qC, i64_w, i32_w]
     rfl
   refine take_ (i := 9) (N := some 35) (v := ?_) (a' := ?_) #[true, true, true, true, true, true, true, true, true, true, false, false, false, false, false] rfl rfl (take_ofW HT_.out HW_.out (by kernel_rfl)) (fun _ _ _ h => h) (Or.inl ⟨by rfl, ?_⟩) hHeld ?_ ?_
   rotate_left
   · rintro w' ⟨s0, s1⟩
     go_simp
     with_reducible rfl
   rotate_left
   · simp only [Act.put, qA, qB, qC, i64_w, i32_w]
     rfl
   refine pure_ (i := 10) (N := some 36) (v := ?_) (a' := ?_) #[true, true, true, true, true, true, true, true, true, true, true, false, false, false, false] rfl rfl (any_of HT_.out (by kernel_rfl)) (fun _ _ _ h => h) (Or.inl ⟨by rfl, ?_⟩) ?_ ?_
   rotate_left
   · intro w'
     go_simp
     with_reducible rfl
   rotate_left
   · simp only [Act.put, qA, qB, qC, i64_w, i32_w]
     rfl
   refine pure_ (i := 11) (N := some 37) (v := ?_) (a' := ?_) #[true, true, true, true, true, true, true, true, true, true, true, true, false, false, false] rfl rfl (any_of HT_.out (by kernel_rfl)) (fun _ _ _ h => h) (Or.inl ⟨by rfl, ?_⟩) ?_ ?_
   rotate_left
   · intro w'
     go_simp
     with_reducible rfl
   rotate_left
   · simp only [Act.put, qA, qB, qC, i64_w, i32_w]
     rfl
   refine last_ (i := 12) (N := some 38) #[true, true, true, true, true, true, true, true, true, true, true, true, true, false, false] rfl rfl (one_of HT_.out (by kernel_rfl)) (by decide) (fun K hK => ?_)
   refine value_ (w1 := ?_) (v := ?_) (by rfl) rfl ?_ ?_
   rotate_left 2
   · go_simp
     constructor
     · rfl
     rfl
   refine hK.out _ _ ?_
   clear hK K
   refine norm_ (a' := ?_) ?_ ?_
   rotate_left
   · show Act.put _ (some 38) _ = _
     simp only [Act.put, qA, qB, qC, i64_w, i32_w]
     rfl
   refine last_ (i := 13) (N := some 39) #[true, true, true, true, true, true, true, true, true, true, true, true, true, true, false] rfl rfl (one_of HT_.out (by kernel_rfl)) (by decide) (fun K hK => ?_)
   refine Kd.R_append_step k35 (w0 := w) w.heap.size (by rfl) (.tmp 26) (.tmp 38) 22 35 (.agg #[(.int .i64 0), (.int .i64 0)]) 16 rfl Try.underlying22 info35 rfl (by decide) (by omega) u7 x7_1 (⟨wrap64 (rd t123 x23_1), wrap64 (rd t127 x23_1)⟩ : S35) [.int .i64 (wrap64 (rd t123 x23_1)), .int .i64 (wrap64 (rd t127 x23_1))] (fun k_ => k_ ≠ gb122) (fun _ => False) rfl rfl ?aP (fun _ hk => hk.elim) ?aF ?aO ?aB ?aS ?aL ?_
   (case aP => exact k35_mkM _ _ _ (⟨wrap64 (rd t123 x23_1), wrap64 (rd t127 x23_1)⟩ : S35))
   (case aB => exact (wV HB.out GE122.out))
   (case aF => exact (fun k_ hk => Kd.freshB (g := gb122) (o := .cells #[.int .i64 a0_0, .int .i64 a0_1] 35 (0, 0)) (bU BK122.out) k_ hk))
   (case aO => exact (rU HO_7.out))
   (case aS => exact (below_size (wV HB.out GE122.out)))
   (case aL => have := LMc14.out; omega)
   intro v134 w17 ho hb hg hat
   rw [← Ny133.out] at ho
   have n0_ := Aside0.mk (Kd.R_over' (rU HO_3.out) (Kd.R_typed (rU HO_7.out)) (by decide) hg)
   have n1_ := Aside0.mk (Kd.R_over' (rU HO_5.out) (Kd.R_typed (rU HO_7.out)) (by decide) hg)
   have n2_ := Aside0.mk (blk_grown (g := gb122) (o := .cells #[.int .i64 a0_0, .int .i64 a0_1] 35 (0, 0)) (bU BK122.out) hg (Kd.R_away HO_7.out (fun _ hk => hk)))
   have n3_ := Aside0.mk (hb)
   have n4_ := Aside0.mk (ho)
   clear HO_3 HO_5 BK122 HB HO_7; have HO_3 := n0_; have HO_5 := n1_; have BK122 := n2_; have HB := n3_; have HO135 := n4_; clear n0_ n1_ n2_ n3_ n4_ ho hb hg hat
   refine hK.out _ _ ?_
   clear hK K
   refine norm_ (a' := ?_) ?_ ?_
   rotate_left
   · show Act.put _ (some 39) _ = _
     simp only [Act.put, qA, qB, qC, i64_w, i32_w]
     rfl
   refine pure_ (i := 14) (N := some 7) (v := ?_) (a' := ?_) #[true, true, true, true, true, true, true, true, true, true, true, true, true, true, true] rfl rfl (any_of HT_.out (by kernel_rfl)) (fun _ _ _ h => h) (Or.inl ⟨by rfl, ?_⟩) ?_ ?_
   rotate_left
   · intro w'
     go_simp
     with_reducible rfl
   rotate_left
   · simp only [Act.put, qA, qB, qC, i64_w, i32_w]
     rfl
   refine done_ (done_of HT_.out (by kernel_rfl)) ?_
   try go_wp2
   go_roundg k1
   case measure => have := HK1.out; omega
   case rel => exact ⟨(y133), (wrap64 (x23_1 + 1)), (by first | rfl | (simp; done) | (simp [*]; done) | (simp [*, bne]; done)), H', ⟨by have := HK1.out; omega⟩, ⟨rU HO_3.out⟩, ⟨rU HO_5.out⟩, ⟨rU HO135.out⟩, ⟨bU BK122.out⟩, ⟨wV HB.out GE122.out⟩⟩
end Go.Proofs.Ytcdahnkdongmdaa.All
