/- Texts of the claim TermTells, merged, without what it does not use. -/
import Derived.Test.YtcdahnkdongmdaaZTermTellsX1
import Derived.Test.YtcdahnkdongmdaaZTermTellsX3
import Derived.Test.YtcdahnkdongmdaaZTermTellsX8
import Derived.Test.YtcdahnkdongmdaaZTermTellsH6
import Derived.Test.YtcdahnkdongmdaaZTermTellsH7
import Derived.Test.YtcdahnkdongmdaaZTermTellsH10
namespace Go.Proofs.Ytcdahnkdongmdaa.All
open Go.RowKit Go.Proofs.YtcdahnkdongmdaaW.PrintWords Go.Proofs.YtcdahnkdongmdaaW.PrintLast Go.Proofs.YtcdahnkdongmdaaW.PrintMore
attribute [local go_sem] max2_int min2_int max_two min_two
set_option linter.unusedVariables false
set_option linter.unusedSimpArgs false
mutual
def seqs_Match.j0 : Nat → List (List (S35)) → List Int → Int → Bool → Option (Int)
  | 0, _, _, _, _ => none
  | k + 1, x0, x1, x2, x17 => if x17 = true then (some 0) else (seqs_Match.l0 k x1 x2 x0 (x0.length : Int) 0)
def seqs_Match.l0 : Nat → List Int → Int → List (List (S35)) → Int → Int → Option (Int)
  | 0, _, _, _, _, _ => none
  | k + 1, x1, x2, x18, x19, x20 => if x20 < x19 then (if 0 ≤ x20 then (if x20 < (x18.length : Int) then (if 0 ≤ x2 then (if x2 ≤ (x1.length : Int) then ((seqs_fits.f (rd_L2 x18 x20) (x1.drop (x2 : Int).toNat)).bind fun t168 => (if t168 = ((rd_L2 x18 x20).length : Int) then (some t168) else (seqs_Match.l0 k x1 x2 x18 x19 (wrap64 (x20 + 1))))) else (none)) else (none)) else (none)) else (none)) else (some 0)
end
def seqs_Match.f (k : Nat) (l0 : List (List (S35))) (l1 : List Int) (a2 : Int) : Option (Int) := if a2 < 0 then (seqs_Match.j0 k l0 l1 a2 true) else (seqs_Match.j0 k l0 l1 a2 (decide (a2 > (l1.length : Int))))
set_option maxHeartbeats 8000000 in
set_option maxRecDepth 100000 in
theorem seqs_Match.calls (k : Nat) (A0 : Option Addr) (c0 : Nat) (l0 : List (List (S35))) (A1 : Option Addr) (c1 : Nat) (l1 : List Int) (a2 : Int) (r : Int) (w : World) (hr0 : Kd.C (Kd.slice 35 k35) w A0 l0.length l0) (hc0 : l0.length ≤ c0) (hr1 : Kd.C (Kd.int .u8) w A1 l1.length l1) (hc1 : l1.length ≤ c1) (h : seqs_Match.f k l0 l1 a2 = some r) :
 Calls Try.prog 17 #[.slice A0 l0.length c0, .slice A1 l1.length c1, .int .i64 a2] w fun e w' => e = .returned (.int .i64 r) ∧ Below w.heap.size w w' := by
 have HR0 := Aside0.mk hr0
 have HC0 := Aside0.mk hc0
 clear hr0 hc0
 have HR1 := Aside0.mk hr1
 have HC1 := Aside0.mk hc1
 clear hr1 hc1
 have HB := Aside0.mk (Below.refl w.heap.size w)
 have H : (if a2 < 0 then (seqs_Match.j0 k l0 l1 a2 true) else (seqs_Match.j0 k l0 l1 a2 (decide (a2 > (l1.length : Int))))) = some r := h
 clear h; have HC4 := Aside0.mk H; clear H
 go_enter Try.func17, Try.ntmps17
 go_upto_region 1 with (fail)
 go_cut [17] (fun v17 wc => ∃ (kq : Nat) (x17_3 : Bool), v17 = .bool x17_3 ∧ Aside0 (seqs_Match.j0 kq l0 l1 a2 x17_3 = some r) ∧ Aside0 (kq ≤ k) ∧ Aside0 (Below w.heap.size w wc))
 case first =>
  have H := HC4.out
  clear HC4
  by_cases c5 : a2 < 0
  · rw [if_pos c5] at H
    have c5b0 : decide (a2 < 0) = true := decide_eq_true c5
    clear c5
    (first | rw [c5b0] | (simp only [i64_w, i32_w]; rw [c5b0]) | skip)
    have H' := Aside0.mk H; clear H
    go_wp2
    go_meet
    case rel => exact ⟨_, (true), (by first | rfl | (simp; done) | (simp [*]; done) | (simp [*, bne]; done)), H', ⟨by first | omega | exact Nat.le_refl _⟩, ⟨wU HB.out⟩⟩
  rw [if_neg c5] at H
  have c5b0 : decide (a2 < 0) = false := decide_eq_false c5
  clear c5
  (first | rw [c5b0] | (simp only [i64_w, i32_w]; rw [c5b0]) | skip)
  have H' := Aside0.mk H; clear H
  go_wp2
  go_meet
  case rel => exact ⟨_, (decide (a2 > (l1.length : Int))), (by first | rfl | (simp; done) | (simp [*]; done) | (simp [*, bne]; done)), H', ⟨by first | omega | exact Nat.le_refl _⟩, ⟨wU HB.out⟩⟩
 case rest =>
  clear HC4; (try clear c1); (try clear p2); (try clear c5); (try clear c5b0)
  obtain ⟨kq, x17_3, rfl, HA, HJ3, HB⟩ := hcut
  cases kq with
  | zero => exact absurd HA.out (by simp [seqs_Match.j0])
  | succ kj3 =>
   have H := HA.out
   clear HA
   simp only [seqs_Match.j0] at H
   by_cases c6 : x17_3 = true
   · subst c6
     have H1 : (some 0) = some r := by rw [if_pos rfl] at H; exact H
     clear H; have H := H1; clear H1
     obtain rfl := Option.some.inj H
     go_wp2
     go_ret
     exact ⟨by first | rfl | (simp [errW_none, errW_some] <;> rfl) | (simp [*, errW_none, errW_some] <;> rfl), wU HB.out⟩
   replace c6 := Bool.eq_false_iff.mpr c6
   subst c6
   have H1 : (seqs_Match.l0 kj3 l1 a2 l0 (l0.length : Int) 0) = some r := by rw [if_neg (show ¬ (false = true) by decide)] at H; exact H
   clear H; have H := H1; clear H1; have H' := Aside0.mk H; clear H
   go_wp2
   go_loopg [20] kj3 (fun kq v20 w' => ∃ (x20_2 : Int), v20 = .int .i64 x20_2 ∧ Aside0 (seqs_Match.l0 kq l1 a2 l0 (l0.length : Int) x20_2 = some r) ∧ Aside0 (kq ≤ kj3) ∧ Aside0 (Below w.heap.size w w'))
   case atStart => exact ⟨(0), (by first | rfl | (simp; done) | (simp [*]; done) | (simp [*, bne]; done)), H', ⟨Nat.le_refl _⟩, ⟨wU HB.out⟩⟩
   case round =>
    clear H'; (try clear c1); (try clear p2); (try clear c5); (try clear c5b0); (try clear c6); (try clear p2)
    obtain ⟨x20_2, rfl, HA, HK2, HB⟩ := hrel
    cases gk with
    | zero => exact absurd HA.out (by simp [seqs_Match.l0])
    | succ k2 =>
     have H := HA.out
     clear HA
     simp only [seqs_Match.l0] at H
     by_cases c7 : x20_2 < (l0.length : Int)
     rotate_left
     · rw [if_neg c7] at H
       have c7b0 : decide (x20_2 < (l0.length : Int)) = false := decide_eq_false c7
       clear c7
       obtain rfl := Option.some.inj H
       go_wp2
       go_ret
       exact ⟨by first | rfl | (simp [errW_none, errW_some] <;> rfl) | (simp [*, errW_none, errW_some] <;> rfl), wU HB.out⟩
     rw [if_pos c7] at H
     have c7b0 : decide (x20_2 < (l0.length : Int)) = true := decide_eq_true c7
     clear c7
     by_cases c8 : 0 ≤ x20_2
     rotate_left
     · rw [if_neg c8] at H
       exact absurd H (by simp)
     rw [if_pos c8] at H
     have c8b0 : decide (0 ≤ x20_2) = true := decide_eq_true c8
     (try (have hki := Own.idx_kinds x20_2 (of_decide_eq_true c8b0) (of_decide_eq_true (by assumption))))
     clear c8
     by_cases c9 : x20_2 < (l0.length : Int)
     rotate_left
     · rw [if_neg c9] at H
       exact absurd H (by simp)
     rw [if_pos c9] at H
     have c9b0 : decide (x20_2 < (l0.length : Int)) = true := decide_eq_true c9
     clear c9
     by_cases c10 : 0 ≤ a2
     rotate_left
     · rw [if_neg c10] at H
       exact absurd H (by simp)
     rw [if_pos c10] at H
     have c10b0 := eq_true c10
     have c10b1 : decide (0 ≤ a2) = true := decide_eq_true c10
     clear c10
     by_cases c11 : a2 ≤ (l1.length : Int)
     rotate_left
     · rw [if_neg c11] at H
       exact absurd H (by simp)
     rw [if_pos c11] at H
     have c11b0 := eq_true c11
     have c11b1 : decide (a2 ≤ (l1.length : Int)) = true := decide_eq_true c11
     clear c11
     obtain ⟨y164, hy164⟩ : ∃ y_ : List Int, y_ = (l1.drop (a2 : Int).toNat) := ⟨_, rfl⟩
     replace H : ((seqs_fits.f (rd_L2 l0 x20_2) y164).bind fun t168 => (if t168 = ((rd_L2 l0 x20_2).length : Int) then (some t168) else (seqs_Match.l0 k2 l1 a2 l0 (l0.length : Int) (wrap64 (x20_2 + 1))))) = some r := by first | (rw [hy164]; with_reducible exact H) | (have H2_ := (Option.bind_some _ _).symm.trans H; rw [hy164]; with_reducible exact H2_) | (have H2_ := (Option.bind_some _ _).symm.trans H; with_reducible exact H2_) | with_reducible exact H | (rw [hy164]; exact H) | exact H
     have Ny164 := Aside0.mk hy164
     clear hy164
     replace H := Option.bind_eq_some_iff.mp H
     obtain ⟨t168, A120, H⟩ := H
     replace H : (if t168 = ((rd_L2 l0 x20_2).length : Int) then (some t168) else (seqs_Match.l0 k2 l1 a2 l0 (l0.length : Int) (wrap64 (x20_2 + 1)))) = some r := H
     have A12 := Aside0.mk A120
     clear A120
     by_cases c13 : t168 = ((rd_L2 l0 x20_2).length : Int)
     · rw [if_pos c13] at H
       have c13b0 : (t168 == ((rd_L2 l0 x20_2).length : Int)) = true := beq_iff_eq.mpr c13
       have c13b1 : (t168 != ((rd_L2 l0 x20_2).length : Int)) = false := bne_eq_false_iff_eq.mpr c13
       clear c13
       obtain rfl := Option.some.inj H
       have p163 : 0 ≤ (x20_2 : Int) := of_decide_eq_true (by first | (with_reducible assumption) | assumption)
       have q163 : x20_2 < (l0.length : Int) := of_decide_eq_true (by first | (with_reducible assumption) | assumption)
       obtain ⟨ad163, A163_0, c163_0, e163, hx163_0, hl163_0, hi163_0⟩ := at_L2 HR0.out x20_2 p163 q163
       cases e163
       replace hx163_0 := (HB.out.cell (World.block_lt_of_cell? w _ hx163_0)).trans hx163_0
       have HR163_0 := Aside0.mk hi163_0
       have HC163_0 := Aside0.mk hl163_0
       clear hi163_0 hl163_0; replace p163 := eq_true p163; replace q163 := eq_true q163
       have q14 : (a2 : Int) ≤ ((l1.length : Int) : Int) := of_decide_eq_true (by first | (with_reducible assumption) | assumption)
       obtain ⟨i014, hi014, _, hsz14, _⟩ := info_parts info5
       have hroom14 : l1.length ≤ c1 := HC1.out
       have hC14 : Kd.C (Kd.int .u8) _ A1 l1.length l1 := HR1.out
       have q014 : (0 : Int) ≤ (a2 : Int) := of_decide_eq_true (by first | (with_reducible assumption) | assumption)
       have hcut14 := cut_from (P := Try.prog) 24 5 .i64 Try.underlying24 hi014 1 hsz14 A1 l1.length c1 a2 q014 q14
       have hr14 := Kd.C_drop (m := (a2 : Int).toNat) (c := c1) hC14 (by omega) hroom14
       obtain ⟨A14, hA14⟩ : ∃ A1_, A1_ = (if c1 = (a2 : Int).toNat then A1 else (A1 : Option Addr).map (·.add ((a2 : Int).toNat * 1))) := ⟨_, rfl⟩
       obtain ⟨c14, hc14⟩ : ∃ c1_, c1_ = c1 - (a2 : Int).toNat := ⟨_, rfl⟩
       have hy14 : y164.length = l1.length - (a2 : Int).toNat := (by rw [Ny164.out, List.length_drop] <;> omega)
       rw [show (l1).drop (a2 : Int).toNat = y164 from Ny164.out.symm] at hr14
       replace hr14 : Kd.C (Kd.int .u8) _ A14 y164.length y164 := (by rw [hA14]; exact hr14)
       rw [← hy14, ← hA14, ← hc14] at hcut14
       have HR167 := Aside0.mk hr14
       have HC167 := Aside0.mk (show y164.length ≤ c14 from by rw [hy14, hc14]; exact Nat.sub_le_sub_right hroom14 _)
       clear hr14 hC14 hroom14 hi014 hsz14 hc14
       have KY14 := Aside0.mk hy14
       have KA14 := Aside0.mk hA14
       clear hy14 hA14; replace q14 := eq_true q14
       go_wp2_with (first | ((with_reducible refine gate_callee (f := 40) rfl ?_); refine goesL_ (some 28) rfl rfl Try.func40 (by kernel_rfl) rfl #[.slice A163_0 (rd_L2 l0 x20_2).length c163_0, .slice A14 y164.length c14] rfl (by (try simp only [List.map_toArray, List.map_cons, List.map_nil]); first | done | rfl | (simp only [List.length_drop, List.length_take]; rfl)) ?_; (with_reducible refine (seqs_fits.calls _ _ (rd_L2 l0 x20_2) _ _ y164 t168 _ ?side1 ?side2 ?side3 ?side4 A12.out).mono ?_); (case side1 => exact cU (Kd.C_below HR163_0.out HB.out)); (case side2 => exact HC163_0.out); (case side3 => exact cU (Kd.C_below HR167.out HB.out)); (case side4 => exact HC167.out); rintro e w15 ⟨rfl, hb⟩; refine ⟨_, rfl, ?_⟩; have n0_ := Aside0.mk (below_step (wU HB.out) hb); clear HB; have HB := n0_; clear n0_; (try clear hb); (try clear hb2); (try clear hk); (try clear hi)))
       go_ret
       exact ⟨by first | rfl | (simp [errW_none, errW_some] <;> rfl) | (simp [*, errW_none, errW_some] <;> rfl), wU HB.out⟩
     rw [if_neg c13] at H
     have c13b0 : (t168 == ((rd_L2 l0 x20_2).length : Int)) = false := beq_eq_false_iff_ne.mpr c13
     have c13b1 : (t168 != ((rd_L2 l0 x20_2).length : Int)) = true := bne_iff_ne.mpr c13
     have H' := Aside0.mk H; clear H
     have p163 : 0 ≤ (x20_2 : Int) := of_decide_eq_true (by first | (with_reducible assumption) | assumption)
     have q163 : x20_2 < (l0.length : Int) := of_decide_eq_true (by first | (with_reducible assumption) | assumption)
     obtain ⟨ad163, A163_0, c163_0, e163, hx163_0, hl163_0, hi163_0⟩ := at_L2 HR0.out x20_2 p163 q163
     cases e163
     replace hx163_0 := (HB.out.cell (World.block_lt_of_cell? w _ hx163_0)).trans hx163_0
     have HR163_0 := Aside0.mk hi163_0
     have HC163_0 := Aside0.mk hl163_0
     clear hi163_0 hl163_0; replace p163 := eq_true p163; replace q163 := eq_true q163
     have q16 : (a2 : Int) ≤ ((l1.length : Int) : Int) := of_decide_eq_true (by first | (with_reducible assumption) | assumption)
     obtain ⟨i016, hi016, _, hsz16, _⟩ := info_parts info5
     have hroom16 : l1.length ≤ c1 := HC1.out
     have hC16 : Kd.C (Kd.int .u8) _ A1 l1.length l1 := HR1.out
     have q016 : (0 : Int) ≤ (a2 : Int) := of_decide_eq_true (by first | (with_reducible assumption) | assumption)
     (try clear hcut14); have hcut16 := cut_from (P := Try.prog) 24 5 .i64 Try.underlying24 hi016 1 hsz16 A1 l1.length c1 a2 q016 q16
     have hr16 := Kd.C_drop (m := (a2 : Int).toNat) (c := c1) hC16 (by omega) hroom16
     obtain ⟨A16, hA16⟩ : ∃ A1_, A1_ = (if c1 = (a2 : Int).toNat then A1 else (A1 : Option Addr).map (·.add ((a2 : Int).toNat * 1))) := ⟨_, rfl⟩
     obtain ⟨c16, hc16⟩ : ∃ c1_, c1_ = c1 - (a2 : Int).toNat := ⟨_, rfl⟩
     have hy16 : y164.length = l1.length - (a2 : Int).toNat := (by rw [Ny164.out, List.length_drop] <;> omega)
     rw [show (l1).drop (a2 : Int).toNat = y164 from Ny164.out.symm] at hr16
     replace hr16 : Kd.C (Kd.int .u8) _ A16 y164.length y164 := (by rw [hA16]; exact hr16)
     rw [← hy16, ← hA16, ← hc16] at hcut16
     have HR167 := Aside0.mk hr16
     have HC167 := Aside0.mk (show y164.length ≤ c16 from by rw [hy16, hc16]; exact Nat.sub_le_sub_right hroom16 _)
     clear hr16 hC16 hroom16 hi016 hsz16 hc16
     have KY16 := Aside0.mk hy16
     have KA16 := Aside0.mk hA16
     clear hy16 hA16; replace q16 := eq_true q16
     go_wp2_with (first | ((with_reducible refine gate_callee (f := 40) rfl ?_); refine goesL_ (some 28) rfl rfl Try.func40 (by kernel_rfl) rfl #[.slice A163_0 (rd_L2 l0 x20_2).length c163_0, .slice A16 y164.length c16] rfl (by (try simp only [List.map_toArray, List.map_cons, List.map_nil]); first | done | rfl | (simp only [List.length_drop, List.length_take]; rfl)) ?_; (with_reducible refine (seqs_fits.calls _ _ (rd_L2 l0 x20_2) _ _ y164 t168 _ ?side1 ?side2 ?side3 ?side4 A12.out).mono ?_); (case side1 => exact cU (Kd.C_below HR163_0.out HB.out)); (case side2 => exact HC163_0.out); (case side3 => exact cU (Kd.C_below HR167.out HB.out)); (case side4 => exact HC167.out); rintro e w17 ⟨rfl, hb⟩; refine ⟨_, rfl, ?_⟩; have n0_ := Aside0.mk (below_step (wU HB.out) hb); clear HB; have HB := n0_; clear n0_; (try clear hb); (try clear hb2); (try clear hk); (try clear hi)))
     go_roundg k2
     case measure => have := HJ3.out; have := HK2.out; omega
     case rel => exact ⟨(wrap64 (x20_2 + 1)), (by first | rfl | (simp; done) | (simp [*]; done) | (simp [*, bne]; done)), H', ⟨by have := HJ3.out; have := HK2.out; omega⟩, ⟨wU HB.out⟩⟩
def term_sym_scalar.f (k : Nat) (a0_0 : Int) (l0_1 : List (S35)) (a0_2 : Int) (l1 : List Int) (a2 : Int) : Option (Int) := (seqs_Of.f k l0_1).bind fun t170 => ((seqs_Match.f k t170 l1 a2).bind fun t173 => (some t173))
set_option maxHeartbeats 8000000 in
set_option maxRecDepth 100000 in
theorem term_sym_scalar.calls (k : Nat) (a0_0 : Int) (A0_1 : Option Addr) (c0_1 : Nat) (l0_1 : List (S35)) (a0_2 : Int) (A1 : Option Addr) (c1 : Nat) (l1 : List Int) (a2 : Int) (r : Int) (w : World) (hr0_1 : Kd.C k35 w A0_1 l0_1.length l0_1) (hc0_1 : l0_1.length ≤ c0_1) (hr1 : Kd.C (Kd.int .u8) w A1 l1.length l1) (hc1 : l1.length ≤ c1) (h : term_sym_scalar.f k a0_0 l0_1 a0_2 l1 a2 = some r) :
 Calls Try.prog 50 #[.agg #[.int .i64 a0_0, .slice A0_1 l0_1.length c0_1, .int .i64 a0_2], .slice A1 l1.length c1, .int .i64 a2] w fun e w' => e = .returned (.int .i64 r) ∧ Below w.heap.size w w' := by
 have hu77 := Try.underlying77
 have HR0_1 := Aside0.mk hr0_1
 have HC0_1 := Aside0.mk hc0_1
 clear hr0_1 hc0_1
 have HR1 := Aside0.mk hr1
 have HC1 := Aside0.mk hc1
 clear hr1 hc1
 have HB := Aside0.mk (Below.refl w.heap.size w)
 have H : ((seqs_Of.f k l0_1).bind fun t170 => ((seqs_Match.f k t170 l1 a2).bind fun t173 => (some t173))) = some r := h
 clear h
 replace H := Option.bind_eq_some_iff.mp H
 obtain ⟨t170, A40, H⟩ := H
 replace H : ((seqs_Match.f k t170 l1 a2).bind fun t173 => (some t173)) = some r := H
 have A4 := Aside0.mk A40
 clear A40
 replace H := Option.bind_eq_some_iff.mp H
 obtain ⟨t173, A50, H⟩ := H
 replace H : (some t173) = some r := H
 have A5 := Aside0.mk A50
 clear A50
 obtain rfl := Option.some.inj H
 go_enter Try.func50, Try.ntmps50
 go_wp2_with (first | ((with_reducible refine gate_dst (N := 3) rfl ?_); refine box_event ?hg (N := 3) ?hd (cs := #[.int .i64 a0_0, .slice A0_1 l0_1.length c0_1, .int .i64 a0_2]) (t := 77) ?hr ?_; (case hd => rfl); (case hg => rfl); (case hr => first | (go_simp; done) | (go_simp; rfl)); intro gb169 hg w6 hbox hb; have n0_ := Aside0.mk (below_step (wU HB.out) hb); have n1_ := Aside0.mk (hbox); have n2_ := Aside0.mk ((by rw [hg]; exact (below_size (wU HB.out)) : w.heap.size ≤ gb169)); have n3_ := Aside0.mk ((by rw [hg]; exact (below_size (wU HB.out)) : w.heap.size ≤ gb169)); clear HB; have HB := n0_; have BK169 := n1_; have GW169 := n2_; have GE169 := n3_; clear n0_ n1_ n2_ n3_; clear hb hbox hg; have hcz7_0 : w6.cell? ⟨gb169, 0, none⟩ = some (.int .i64 a0_0) := (blk_cell BK169.out 0).trans rfl; have hcz7_1 : w6.cell? ⟨gb169, 1, none⟩ = some (.slice A0_1 l0_1.length c0_1) := (blk_cell BK169.out 1).trans rfl; have hcz7_2 : w6.cell? ⟨gb169, 2, none⟩ = some (.int .i64 a0_2) := (blk_cell BK169.out 2).trans rfl; have hfz7_0 := blk_frozen BK169.out 0; have hfz7_1 := blk_frozen BK169.out 1; have hfz7_2 := blk_frozen BK169.out 2) | ((with_reducible refine gate_callee (f := 16) rfl ?_); refine goesL_ (some 9) rfl rfl Try.func16 (by kernel_rfl) rfl #[.slice A0_1 l0_1.length c0_1] rfl (by (try simp only [List.map_toArray, List.map_cons, List.map_nil]); first | done | rfl | (simp only [List.length_drop, List.length_take]; rfl)) ?_; (with_reducible refine (seqs_Of.calls k _ _ l0_1 t170 _ ?side1 ?side2 A4.out).mono ?_); (case side1 => exact cU (Kd.C_below HR0_1.out HB.out)); (case side2 => exact HC0_1.out); rintro e w8 ⟨v171, rfl, ho0, hb⟩; refine ⟨_, rfl, ?_⟩; have n0_ := Aside0.mk (Kd.S_lower ho0 (below_size (wV HB.out GE169.out))); have n1_ := Aside0.mk (blk_below (g := gb169) (o := .cells #[.int .i64 a0_0, .slice A0_1 l0_1.length c0_1, .int .i64 a0_2] 77 (0, 0)) (bU BK169.out) hb); have n2_ := Aside0.mk (below_step (wV HB.out GE169.out) hb); clear BK169; clear HB; have HO172 := n0_; have BK169 := n1_; have HB := n2_; clear n0_ n1_ n2_; (try clear hb); (try clear hb2); (try clear hk); (try clear hi); (try clear ho0); obtain ⟨Ao9, co9, eo9⟩ := Kd.S_slice HO172.out; subst eo9) | ((with_reducible refine gate_callee (f := 17) rfl ?_); refine goesL_ (some 12) rfl rfl Try.func17 (by kernel_rfl) rfl #[.slice Ao9 t170.length co9, .slice A1 l1.length c1, .int .i64 a2] rfl (by (try simp only [List.map_toArray, List.map_cons, List.map_nil]); first | done | rfl | (simp only [List.length_drop, List.length_take]; rfl)) ?_; (with_reducible refine (seqs_Match.calls k _ _ t170 _ _ l1 a2 t173 _ ?side1 ?side2 ?side3 ?side4 A5.out).mono ?_); (case side1 => exact cU (Kd.S_reads' HO172.out).2.2); (case side2 => exact (Kd.S_reads' HO172.out).2.1); (case side3 => exact cU (Kd.C_below HR1.out HB.out)); (case side4 => exact HC1.out); rintro e w10 ⟨rfl, hb⟩; refine ⟨_, rfl, ?_⟩; have n0_ := Aside0.mk (Kd.S_below (by (with_reducible repeat (first | apply Kd.S_alloc | apply Kd.S_drewN | apply Kd.S_drew)); exact HO172.out) hb); have n1_ := Aside0.mk (blk_below (g := gb169) (o := .cells #[.int .i64 a0_0, .slice A0_1 l0_1.length c0_1, .int .i64 a0_2] 77 (0, 0)) (bU BK169.out) hb); have n2_ := Aside0.mk (below_step (wV HB.out GE169.out) hb); clear HO172; clear BK169; clear HB; have HO172 := n0_; have BK169 := n1_; have HB := n2_; clear n0_ n1_ n2_; (try clear hb); (try clear hb2); (try clear hk); (try clear hi)))
 go_ret
 exact ⟨by first | rfl | (simp [errW_none, errW_some] <;> rfl) | (simp [*, errW_none, errW_some] <;> rfl), wV HB.out GE169.out⟩
def term_sym_none.f (a0_0 : Int) (l0_1 : List (S35)) (a0_2 : Int) (l1 : List Int) (a2 : Int) : Option (Int) := some 0
set_option maxHeartbeats 8000000 in
set_option maxRecDepth 100000 in
theorem term_sym_none.calls (a0_0 : Int) (A0_1 : Option Addr) (c0_1 : Nat) (l0_1 : List (S35)) (a0_2 : Int) (A1 : Option Addr) (c1 : Nat) (l1 : List Int) (a2 : Int) (r : Int) (w : World) (hr0_1 : Kd.C k35 w A0_1 l0_1.length l0_1) (hc0_1 : l0_1.length ≤ c0_1) (hr1 : Kd.C (Kd.int .u8) w A1 l1.length l1) (hc1 : l1.length ≤ c1) (h : term_sym_none.f a0_0 l0_1 a0_2 l1 a2 = some r) :
 Calls Try.prog 51 #[.agg #[.int .i64 a0_0, .slice A0_1 l0_1.length c0_1, .int .i64 a0_2], .slice A1 l1.length c1, .int .i64 a2] w fun e w' => e = .returned (.int .i64 r) ∧ Below w.heap.size w w' := by
 have hu77 := Try.underlying77
 have HR0_1 := Aside0.mk hr0_1
 have HC0_1 := Aside0.mk hc0_1
 clear hr0_1 hc0_1
 have HR1 := Aside0.mk hr1
 have HC1 := Aside0.mk hc1
 clear hr1 hc1
 have HB := Aside0.mk (Below.refl w.heap.size w)
 have H : (some 0) = some r := h
 clear h
 obtain rfl := Option.some.inj H
 go_enter Try.func51, Try.ntmps51
 go_wp2_with (first | ((with_reducible refine gate_dst (N := 3) rfl ?_); refine box_event ?hg (N := 3) ?hd (cs := #[.int .i64 a0_0, .slice A0_1 l0_1.length c0_1, .int .i64 a0_2]) (t := 77) ?hr ?_; (case hd => rfl); (case hg => rfl); (case hr => first | (go_simp; done) | (go_simp; rfl)); intro gb174 hg w4 hbox hb; have n0_ := Aside0.mk (below_step (wU HB.out) hb); have n1_ := Aside0.mk (hbox); have n2_ := Aside0.mk ((by rw [hg]; exact (below_size (wU HB.out)) : w.heap.size ≤ gb174)); have n3_ := Aside0.mk ((by rw [hg]; exact (below_size (wU HB.out)) : w.heap.size ≤ gb174)); clear HB; have HB := n0_; have BK174 := n1_; have GW174 := n2_; have GE174 := n3_; clear n0_ n1_ n2_ n3_; clear hb hbox hg))
 go_ret
 exact ⟨by first | rfl | (simp [errW_none, errW_some] <;> rfl) | (simp [*, errW_none, errW_some] <;> rfl), wV HB.out GE174.out⟩
set_option maxHeartbeats 2000000 in
set_option maxRecDepth 100000 in
theorem how_m_k0 (a : Int) (A0 : Option Addr) (c0 : Nat) (l0 : List S35) (n : Int) (A1 : Option Addr) (c1 : Nat) (l1 : List Int) (at_ r : Int) (w : World) (h0 : a = 0)
 (hc : ∀ W : World, Below w.heap.size w W → Calls Try.prog 49 #[.agg #[.int .i64 a, .slice A0 l0.length c0, .int .i64 n], .slice A1 l1.length c1, .int .i64 at_] W fun e w' => e = .returned (.int .i64 r) ∧ Below W.heap.size W w') :
 Calls Try.prog 52 #[.agg #[.func (.func 49) #[] #[], .func (.func 50) #[] #[], .func (.func 51) #[] #[]], .agg #[.int .i64 a, .slice A0 l0.length c0, .int .i64 n], .slice A1 l1.length c1, .int .i64 at_] w fun e w' => e = .returned (.int .i64 r) ∧ Below w.heap.size w w' := by
 have hu43 := Try.underlying43
 have hu79 := Try.underlying79
 have hu77 := Try.underlying77
 subst h0
 have HC := Aside0.mk (fun W (h : Below w.heap.size w W) => hc W h)
 clear hc
 go_enter Try.func52, Try.ntmps52
 go_wp2_with (go_at_call 49; refine (HC.out _ (((Below.refl _ w).alloc (Nat.le_refl _) _).alloc (by simp) _)).mono ?_; rintro e w' ⟨rfl, hb⟩; have HB := Aside0.mk hb; clear hb)
 go_ret
 exact ⟨rfl, (((Below.refl _ w).alloc (Nat.le_refl _) _).alloc (by simp) _).trans (HB.out.mono (by simp; omega))⟩
set_option maxHeartbeats 2000000 in
set_option maxRecDepth 100000 in
theorem how_m_k1 (a : Int) (A0 : Option Addr) (c0 : Nat) (l0 : List S35) (n : Int) (A1 : Option Addr) (c1 : Nat) (l1 : List Int) (at_ r : Int) (w : World) (h0 : a = 1)
 (hc : ∀ W : World, Below w.heap.size w W → Calls Try.prog 50 #[.agg #[.int .i64 a, .slice A0 l0.length c0, .int .i64 n], .slice A1 l1.length c1, .int .i64 at_] W fun e w' => e = .returned (.int .i64 r) ∧ Below W.heap.size W w') :
 Calls Try.prog 52 #[.agg #[.func (.func 49) #[] #[], .func (.func 50) #[] #[], .func (.func 51) #[] #[]], .agg #[.int .i64 a, .slice A0 l0.length c0, .int .i64 n], .slice A1 l1.length c1, .int .i64 at_] w fun e w' => e = .returned (.int .i64 r) ∧ Below w.heap.size w w' := by
 have hu43 := Try.underlying43
 have hu79 := Try.underlying79
 have hu77 := Try.underlying77
 subst h0
 have HC := Aside0.mk (fun W (h : Below w.heap.size w W) => hc W h)
 clear hc
 go_enter Try.func52, Try.ntmps52
 go_wp2_with (go_at_call 50; refine (HC.out _ (((Below.refl _ w).alloc (Nat.le_refl _) _).alloc (by simp) _)).mono ?_; rintro e w' ⟨rfl, hb⟩; have HB := Aside0.mk hb; clear hb)
 go_ret
 exact ⟨rfl, (((Below.refl _ w).alloc (Nat.le_refl _) _).alloc (by simp) _).trans (HB.out.mono (by simp; omega))⟩
set_option maxHeartbeats 2000000 in
set_option maxRecDepth 100000 in
theorem how_m_k2 (a : Int) (A0 : Option Addr) (c0 : Nat) (l0 : List S35) (n : Int) (A1 : Option Addr) (c1 : Nat) (l1 : List Int) (at_ r : Int) (w : World) (h0 : a ≠ 0) (h1 : a ≠ 1)
 (hc : ∀ W : World, Below w.heap.size w W → Calls Try.prog 51 #[.agg #[.int .i64 a, .slice A0 l0.length c0, .int .i64 n], .slice A1 l1.length c1, .int .i64 at_] W fun e w' => e = .returned (.int .i64 r) ∧ Below W.heap.size W w') :
 Calls Try.prog 52 #[.agg #[.func (.func 49) #[] #[], .func (.func 50) #[] #[], .func (.func 51) #[] #[]], .agg #[.int .i64 a, .slice A0 l0.length c0, .int .i64 n], .slice A1 l1.length c1, .int .i64 at_] w fun e w' => e = .returned (.int .i64 r) ∧ Below w.heap.size w w' := by
 have hu43 := Try.underlying43
 have hu79 := Try.underlying79
 have hu77 := Try.underlying77
 have d0 : (a == 0) = false := beq_eq_false_iff_ne.mpr h0
 have d1 : (a == 1) = false := beq_eq_false_iff_ne.mpr h1
 clear h0 h1
 have HC := Aside0.mk (fun W (h : Below w.heap.size w W) => hc W h)
 clear hc
 go_enter Try.func52, Try.ntmps52
 go_wp2_with (go_at_call 51; refine (HC.out _ (((Below.refl _ w).alloc (Nat.le_refl _) _).alloc (by simp) _)).mono ?_; rintro e w' ⟨rfl, hb⟩; have HB := Aside0.mk hb; clear hb)
 go_ret
 exact ⟨rfl, (((Below.refl _ w).alloc (Nat.le_refl _) _).alloc (by simp) _).trans (HB.out.mono (by simp; omega))⟩
def term_Match.way (k : Nat) (a0_0 : Int) (l0_1 : List (S35)) (a0_2 : Int) (l1 : List Int) (a2 : Int) : Option Int :=
  if a0_0 = 0 then term_sym_octet.f a0_0 l0_1 a0_2 l1 a2 else if a0_0 = 1 then term_sym_scalar.f k a0_0 l0_1 a0_2 l1 a2 else term_sym_none.f a0_0 l0_1 a0_2 l1 a2
theorem term_Match.how (k : Nat) (a0_0 : Int) (A0_1 : Option Addr) (c0_1 : Nat) (l0_1 : List (S35)) (a0_2 : Int) (A1 : Option Addr) (c1 : Nat) (l1 : List Int) (a2 : Int) (r : Int) (w : World) (hr0_1 : Kd.C k35 w A0_1 l0_1.length l0_1) (hc0_1 : l0_1.length ≤ c0_1) (hr1 : Kd.C (Kd.int .u8) w A1 l1.length l1) (hc1 : l1.length ≤ c1) (h : term_Match.way k a0_0 l0_1 a0_2 l1 a2 = some r) :
 Calls Try.prog 52 #[.agg #[.func (.func 49) #[] #[], .func (.func 50) #[] #[], .func (.func 51) #[] #[]], .agg #[.int .i64 a0_0, .slice A0_1 l0_1.length c0_1, .int .i64 a0_2], .slice A1 l1.length c1, .int .i64 a2] w fun e w' => e = .returned (.int .i64 r) ∧ Below w.heap.size w w' := by
 unfold term_Match.way at h
 by_cases c0 : a0_0 = 0
 · rw [if_pos c0] at h
   exact how_m_k0 a0_0 A0_1 c0_1 l0_1 a0_2 A1 c1 l1 a2 r w c0 fun W hb => term_sym_octet.calls a0_0 A0_1 c0_1 l0_1 a0_2 A1 c1 l1 a2 r W (Kd.C_below hr0_1 hb) hc0_1 (Kd.C_below hr1 hb) hc1 h
 rw [if_neg c0] at h
 by_cases c1' : a0_0 = 1
 · rw [if_pos c1'] at h
   exact how_m_k1 a0_0 A0_1 c0_1 l0_1 a0_2 A1 c1 l1 a2 r w c1' fun W hb => term_sym_scalar.calls k a0_0 A0_1 c0_1 l0_1 a0_2 A1 c1 l1 a2 r W (Kd.C_below hr0_1 hb) hc0_1 (Kd.C_below hr1 hb) hc1 h
 rw [if_neg c1'] at h
 exact how_m_k2 a0_0 A0_1 c0_1 l0_1 a0_2 A1 c1 l1 a2 r w c0 c1' fun W hb => term_sym_none.calls a0_0 A0_1 c0_1 l0_1 a0_2 A1 c1 l1 a2 r W (Kd.C_below hr0_1 hb) hc0_1 (Kd.C_below hr1 hb) hc1 h
def term_Match.f (k : Nat) (a0_0 : Int) (l0_1 : List (S35)) (a0_2 : Int) (l1 : List Int) (a2 : Int) : Option (Int × Bool) := (term_Match.way k a0_0 l0_1 a0_2 l1 a2).bind fun t => some (t, decide (t > 0))
set_option maxHeartbeats 2000000 in
set_option maxRecDepth 100000 in
theorem term_Match.calls (k : Nat) (a0_0 : Int) (A0_1 : Option Addr) (c0_1 : Nat) (l0_1 : List (S35)) (a0_2 : Int) (A1 : Option Addr) (c1 : Nat) (l1 : List Int) (a2 : Int) (r1 : Int) (r2 : Bool) (w : World) (hr0_1 : Kd.C k35 w A0_1 l0_1.length l0_1) (hc0_1 : l0_1.length ≤ c0_1) (hr1 : Kd.C (Kd.int .u8) w A1 l1.length l1) (hc1 : l1.length ≤ c1) (h : term_Match.f k a0_0 l0_1 a0_2 l1 a2 = some (r1, r2)) :
 Calls Try.prog 25 #[.agg #[.int .i64 a0_0, .slice A0_1 l0_1.length c0_1, .int .i64 a0_2], .slice A1 l1.length c1, .int .i64 a2] w fun e w' => e = .returned (.tuple #[.int .i64 r1, .bool r2]) ∧ Below w.heap.size w w' := by
 unfold term_Match.f at h
 obtain ⟨t, h1, h2⟩ := Option.bind_eq_some_iff.mp h
 simp only [Option.some.injEq, Prod.mk.injEq] at h2
 obtain ⟨rfl, rfl⟩ := h2
 have HC := Aside0.mk (fun W (hb : Below w.heap.size w W) => term_Match.how k a0_0 A0_1 c0_1 l0_1 a0_2 A1 c1 l1 a2 t W (Kd.C_below hr0_1 hb) hc0_1 (Kd.C_below hr1 hb) hc1 h1)
 have hu43 := Try.underlying43
 clear h h1 hr0_1 hr1 hc0_1 hc1
 go_enter Try.func25, Try.ntmps25
 go_wp2_with (go_at_call 52; refine (HC.out _ ((Below.refl _ w).alloc (Nat.le_refl _) _)).mono ?_; rintro e w' ⟨rfl, hb⟩; have HB := Aside0.mk hb; clear hb)
 go_ret2
 exact ⟨rfl, ((Below.refl _ w).alloc (Nat.le_refl _) _).trans (HB.out.mono (by simp))⟩
end Go.Proofs.Ytcdahnkdongmdaa.All
