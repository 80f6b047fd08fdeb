/- Texts of the claim TermTells, merged, without what it does not use. -/
import Derived.Test.YtcdahnkdongmdaaZTermTellsX1
import Derived.Test.YtcdahnkdongmdaaZTermTellsX9
import Derived.Test.YtcdahnkdongmdaaZTermTellsX10
import Derived.Test.YtcdahnkdongmdaaZTermTellsX11
import Derived.Test.YtcdahnkdongmdaaZTermTellsX14
import Derived.Test.YtcdahnkdongmdaaZTermTellsX15
import Derived.Test.YtcdahnkdongmdaaZTermTellsX22
import Derived.Test.YtcdahnkdongmdaaZTermTellsH6
import Derived.Test.YtcdahnkdongmdaaZTermTellsH7
import Derived.Test.YtcdahnkdongmdaaZTermTellsH10
namespace Go.Proofs.Ytcdahnkdongmdaa.All
open Go.RowKit Go.Proofs.YtcdahnkdongmdaaW.PrintWords Go.Proofs.YtcdahnkdongmdaaW.PrintLast Go.Proofs.YtcdahnkdongmdaaW.PrintMore
attribute [local go_sem] max2_int min2_int max_two min_two
set_option linter.unusedVariables false
set_option linter.unusedSimpArgs false
mutual
def exegetelaw14_TermTells.j0 : Nat → List (S43) → List Int → Int → Bool → Bool → Int → List (S35) → Int → Option (Bool)
  | 0, _, _, _, _, _, _, _, _ => none
  | k + 1, x1, x2, x3, x9, x34, x395000, x395001, x395002 => if x34 = true then (some x9) else (exegetelaw14_TermTells.l0 k x1 x2 x3 0 x395000 x395001 x395002)
def exegetelaw14_TermTells.l0 : Nat → List (S43) → List Int → Int → Int → Int → List (S35) → Int → Option (Bool)
  | 0, _, _, _, _, _, _, _ => none
  | k + 1, x1, x2, x3, x10, x395000, x395001, x395002 => if x10 < (x1.length : Int) then (if 0 ≤ x10 then (if (((rd_T43 x1 x10).f1).length : Int) > 20 then (some true) else (exegetelaw14_TermTells.l0 k x1 x2 x3 (wrap64 (x10 + 1)) x395000 x395001 x395002)) else (none)) else ((term_Match.f k x395000 x395001 x395002 x2 x3).bind fun bt397 => ((exegeteref14_Match.f k x395000 x395001 x395002 x2 x3).bind fun bt399 => ((term_Texts.f k x1 x2 x3).bind fun t401 => ((exegeteref14_Texts.f k x1 x2 x3).bind fun t404 => ((exegeteref04_Ints.f k t401 t404).bind fun t407 => (if t407 = true then (if bt397.1 = bt399.1 then (if (bt397.2 == bt399.2) = true then ((term_Part.f k x395000 x395001 x395002 x2 x3).bind fun t408 => ((exegeteref14_Part.f k x395000 x395001 x395002 x2 x3).bind fun t409 => (some (t408 == t409)))) else (some false)) else (some false)) else (some false)))))))
end
def exegetelaw14_TermTells.f (k : Nat) (a0_0 : Int) (l0_1 : List (S35)) (a0_2 : Int) (l1 : List (S43)) (l2 : List Int) (a3 : Int) : Option (Bool) := (exegetelaw14_awake.f k).bind fun t395 => (if t395 = true then (if (l0_1.length : Int) > 20 then (exegetelaw14_TermTells.j0 k l1 l2 a3 t395 true a0_0 l0_1 a0_2) else (if (l1.length : Int) > 10 then (exegetelaw14_TermTells.j0 k l1 l2 a3 t395 true a0_0 l0_1 a0_2) else (exegetelaw14_TermTells.j0 k l1 l2 a3 t395 (decide ((l2.length : Int) > 200)) a0_0 l0_1 a0_2))) else (exegetelaw14_TermTells.j0 k l1 l2 a3 t395 true a0_0 l0_1 a0_2))
def exegetelaw14_TermTells.T12 : Bool × List (List Nat × List Nat) := (true, [([], []), ([0], [0]), ([1], [1]), ([1], [1]), ([2, 3, 1], [1, 2, 3]), ([1, 4], [1, 4]), ([5, 1], [5]), ([6], [6]), ([6], [6]), ([7, 8, 6], [6, 7, 8]), ([6, 9], [6, 9]), ([10, 6], [10]), ([11], [11]), ([11], [11]), ([11], [11]), ([12, 13, 14, 11, 11], [11, 12, 13, 14]), ([11], [11]), ([11], [11]), ([11], [11]), ([16, 17, 18, 15, 11], [11, 16, 17, 18]), ([15, 19, 11], [11, 15, 19]), ([11, 20], [11, 20]), ([21, 19, 0, 1, 2, 3, 4, 5, 6, 7, 8, 9, 10, 11, 12, 13, 14, 15, 16, 17, 18, 19, 20, 21], [21])])
def exegetelaw14_TermTells.B12 : List Nat := [0, 1, 3, 3, 15, 31, 63, 127, 127, 511, 1023, 2047, 4095, 4095, 4095, 32767, 4095, 4095, 4095, 524287, 1048575, 2097151, 4194303]
theorem exegetelaw14_TermTells.tab12 : rtab .any (opsOf Try.f9 12) = exegetelaw14_TermTells.T12 := by kernel_rfl
theorem exegetelaw14_TermTells.bits12 : waitsOk exegetelaw14_TermTells.T12.2 exegetelaw14_TermTells.B12 = true := by kernel_rfl
set_option maxHeartbeats 8000000 in
set_option maxRecDepth 100000 in
theorem exegetelaw14_TermTells.calls (k : Nat) (a0_0 : Int) (A0_1 : Option Addr) (c0_1 : Nat) (l0_1 : List (S35)) (a0_2 : Int) (A1 : Option Addr) (c1 : Nat) (l1 : List (S43)) (A2 : Option Addr) (c2 : Nat) (l2 : List Int) (a3 : Int) (r : Bool) (w : World) (hr0_1 : Kd.C k35 w A0_1 l0_1.length l0_1) (hc0_1 : l0_1.length ≤ c0_1) (hr1 : Kd.C k43 w A1 l1.length l1) (hc1 : l1.length ≤ c1) (hr2 : Kd.C (Kd.int .u8) w A2 l2.length l2) (hc2 : l2.length ≤ c2) (h : exegetelaw14_TermTells.f k a0_0 l0_1 a0_2 l1 l2 a3 = some r) :
 Calls Try.prog 9 #[.agg #[.int .i64 a0_0, .slice A0_1 l0_1.length c0_1, .int .i64 a0_2], .slice A1 l1.length c1, .slice A2 l2.length c2, .int .i64 a3] w fun e w' => e = .returned (.bool r) ∧ Below w.heap.size w w' := by
 have hu43 := Try.underlying43
 have HR0_1 := Aside0.mk hr0_1
 have HC0_1 := Aside0.mk hc0_1
 clear hr0_1 hc0_1
 have HR1 := Aside0.mk hr1
 have HC1 := Aside0.mk hc1
 clear hr1 hc1
 have HR2 := Aside0.mk hr2
 have HC2 := Aside0.mk hc2
 clear hr2 hc2
 have HB := Aside0.mk (Below.refl w.heap.size w)
 have H : ((exegetelaw14_awake.f k).bind fun t395 => (if t395 = true then (if (l0_1.length : Int) > 20 then (exegetelaw14_TermTells.j0 k l1 l2 a3 t395 true a0_0 l0_1 a0_2) else (if (l1.length : Int) > 10 then (exegetelaw14_TermTells.j0 k l1 l2 a3 t395 true a0_0 l0_1 a0_2) else (exegetelaw14_TermTells.j0 k l1 l2 a3 t395 (decide ((l2.length : Int) > 200)) a0_0 l0_1 a0_2))) else (exegetelaw14_TermTells.j0 k l1 l2 a3 t395 true a0_0 l0_1 a0_2))) = some r := h
 clear h
 replace H := Option.bind_eq_some_iff.mp H
 obtain ⟨t395, A50, H⟩ := H
 replace H : (if t395 = true then (if (l0_1.length : Int) > 20 then (exegetelaw14_TermTells.j0 k l1 l2 a3 t395 true a0_0 l0_1 a0_2) else (if (l1.length : Int) > 10 then (exegetelaw14_TermTells.j0 k l1 l2 a3 t395 true a0_0 l0_1 a0_2) else (exegetelaw14_TermTells.j0 k l1 l2 a3 t395 (decide ((l2.length : Int) > 200)) a0_0 l0_1 a0_2))) else (exegetelaw14_TermTells.j0 k l1 l2 a3 t395 true a0_0 l0_1 a0_2)) = some r := H
 have A5 := Aside0.mk A50
 clear A50; have HC6 := Aside0.mk H; clear H
 go_enter Try.func9, Try.ntmps9
 go_upto_region 2 with (first | ((with_reducible refine gate_dst (N := 4) rfl ?_); (try (refine gate_guard (by rfl) ?_; dsimp only)); refine box_event ?hg (N := 4) ?hd (cs := #[.int .i64 a0_0, .slice A0_1 l0_1.length c0_1, .int .i64 a0_2]) (t := 43) ?hr ?_; (case hd => rfl); (case hg => rfl); (case hr => first | (go_simp; done) | (go_simp; rfl)); intro gb394 hg w7 hbox hb; have n0_ := Aside0.mk (below_step (wU HB.out) hb); have n1_ := Aside0.mk (hbox); have n2_ := Aside0.mk ((by rw [hg]; exact (below_size (wU HB.out)) : w.heap.size ≤ gb394)); have n3_ := Aside0.mk ((by rw [hg]; exact (below_size (wU HB.out)) : w.heap.size ≤ gb394)); clear HB; have HB := n0_; have BK394 := n1_; have GW394 := n2_; have GE394 := n3_; clear n0_ n1_ n2_ n3_; clear hb hbox hg) | ((with_reducible refine gate_callee (f := 24) rfl ?_); refine goesL_ (some 16) rfl rfl Try.func24 (by kernel_rfl) rfl #[] rfl (by (try simp only [List.map_toArray, List.map_cons, List.map_nil]); first | done | rfl | (simp only [List.length_drop, List.length_take]; rfl)) ?_; (with_reducible refine (exegetelaw14_awake.calls k  t395 _ A5.out).mono ?_); rintro e w8 ⟨rfl, hb⟩; refine ⟨_, rfl, ?_⟩; have n0_ := Aside0.mk (blk_below (g := gb394) (o := .cells #[.int .i64 a0_0, .slice A0_1 l0_1.length c0_1, .int .i64 a0_2] 43 (0, 0)) (bU BK394.out) hb); have n1_ := Aside0.mk (below_step (wV HB.out GE394.out) hb); clear BK394; clear HB; have BK394 := n0_; have HB := n1_; clear n0_ n1_; (try clear hb); (try clear hb2); (try clear hk); (try clear hi)))
 (try simp only [Act.put, qA, qB, qC])
 go_cut [34] (fun v34 wc => ∃ (kq : Nat) (x34_5 : Bool), v34 = .bool x34_5 ∧ Aside0 (exegetelaw14_TermTells.j0 kq l1 l2 a3 t395 x34_5 a0_0 l0_1 a0_2 = some r) ∧ Aside0 (kq ≤ k) ∧ Aside0 (wc.heap[gb394]? = some (.cells #[.int .i64 a0_0, (.slice A0_1 l0_1.length c0_1), .int .i64 a0_2] 43 (0, 0))) ∧ Aside0 (Below w.heap.size w wc))
 case first =>
  have H := HC6.out
  clear HC6
  by_cases c9 : t395 = true
  rotate_left
  · replace c9 := Bool.eq_false_iff.mpr c9
    subst c9
    have H1 : (exegetelaw14_TermTells.j0 k l1 l2 a3 false true a0_0 l0_1 a0_2) = some r := by rw [if_neg (show ¬ (false = true) by decide)] at H; exact H
    clear H; have H := H1; clear H1; have H' := Aside0.mk H; clear H
    go_wp2
    go_meet
    case rel => exact ⟨_, (true), (by first | rfl | (simp; done) | (simp [*]; done) | (simp [*, bne]; done)), H', ⟨by first | omega | exact Nat.le_refl _⟩, ⟨bU BK394.out⟩, ⟨wV HB.out GE394.out⟩⟩
  subst c9
  have H1 : (if (l0_1.length : Int) > 20 then (exegetelaw14_TermTells.j0 k l1 l2 a3 true true a0_0 l0_1 a0_2) else (if (l1.length : Int) > 10 then (exegetelaw14_TermTells.j0 k l1 l2 a3 true true a0_0 l0_1 a0_2) else (exegetelaw14_TermTells.j0 k l1 l2 a3 true (decide ((l2.length : Int) > 200)) a0_0 l0_1 a0_2))) = some r := by rw [if_pos rfl] at H; exact H
  clear H; have H := H1; clear H1
  by_cases c10 : (l0_1.length : Int) > 20
  · rw [if_pos c10] at H
    have c10b0 : decide (20 < (l0_1.length : Int)) = true := decide_eq_true c10
    have c10b1 : decide (20 < l0_1.length) = true := decide_eq_true (by omega)
    clear c10
    (first | rw [c10b0] | (simp only [i64_w, i32_w]; rw [c10b0]) | skip)
    have H' := Aside0.mk H; clear H
    have hcz11_0 : w8.cell? ⟨gb394, 0, none⟩ = some (.int .i64 a0_0) := (blk_cell BK394.out 0).trans rfl
    have hcz11_1 : w8.cell? ⟨gb394, 1, none⟩ = some (.slice A0_1 l0_1.length c0_1) := (blk_cell BK394.out 1).trans rfl
    have hcz11_2 : w8.cell? ⟨gb394, 2, none⟩ = some (.int .i64 a0_2) := (blk_cell BK394.out 2).trans rfl
    have hfz11_0 := blk_frozen BK394.out 0
    have hfz11_1 := blk_frozen BK394.out 1
    have hfz11_2 := blk_frozen BK394.out 2
    go_wp2
    go_meet
    case rel => exact ⟨_, (true), (by first | rfl | (simp; done) | (simp [*]; done) | (simp [*, bne]; done)), H', ⟨by first | omega | exact Nat.le_refl _⟩, ⟨bU BK394.out⟩, ⟨wV HB.out GE394.out⟩⟩
  rw [if_neg c10] at H
  have c10b0 : decide (20 < (l0_1.length : Int)) = false := decide_eq_false c10
  have c10b1 : decide (20 < l0_1.length) = false := decide_eq_false (by omega)
  clear c10
  (first | rw [c10b0] | (simp only [i64_w, i32_w]; rw [c10b0]) | skip)
  by_cases c12 : (l1.length : Int) > 10
  · rw [if_pos c12] at H
    have c12b0 : decide (10 < (l1.length : Int)) = true := decide_eq_true c12
    have c12b1 : decide (10 < l1.length) = true := decide_eq_true (by omega)
    clear c12; have H' := Aside0.mk H; clear H
    have hcz13_0 : w8.cell? ⟨gb394, 0, none⟩ = some (.int .i64 a0_0) := (blk_cell BK394.out 0).trans rfl
    have hcz13_1 : w8.cell? ⟨gb394, 1, none⟩ = some (.slice A0_1 l0_1.length c0_1) := (blk_cell BK394.out 1).trans rfl
    have hcz13_2 : w8.cell? ⟨gb394, 2, none⟩ = some (.int .i64 a0_2) := (blk_cell BK394.out 2).trans rfl
    have hfz13_0 := blk_frozen BK394.out 0
    have hfz13_1 := blk_frozen BK394.out 1
    have hfz13_2 := blk_frozen BK394.out 2
    go_wp2
    go_meet
    case rel => exact ⟨_, (true), (by first | rfl | (simp; done) | (simp [*]; done) | (simp [*, bne]; done)), H', ⟨by first | omega | exact Nat.le_refl _⟩, ⟨bU BK394.out⟩, ⟨wV HB.out GE394.out⟩⟩
  rw [if_neg c12] at H
  have c12b0 : decide (10 < (l1.length : Int)) = false := decide_eq_false c12
  have c12b1 : decide (10 < l1.length) = false := decide_eq_false (by omega)
  clear c12; have H' := Aside0.mk H; clear H
  have hcz14_0 : w8.cell? ⟨gb394, 0, none⟩ = some (.int .i64 a0_0) := (blk_cell BK394.out 0).trans rfl
  have hcz14_1 : w8.cell? ⟨gb394, 1, none⟩ = some (.slice A0_1 l0_1.length c0_1) := (blk_cell BK394.out 1).trans rfl
  have hcz14_2 : w8.cell? ⟨gb394, 2, none⟩ = some (.int .i64 a0_2) := (blk_cell BK394.out 2).trans rfl
  have hfz14_0 := blk_frozen BK394.out 0
  have hfz14_1 := blk_frozen BK394.out 1
  have hfz14_2 := blk_frozen BK394.out 2
  go_wp2
  go_meet
  case rel => exact ⟨_, (decide ((l2.length : Int) > 200)), (by first | rfl | (simp; done) | (simp [*]; done) | (simp [*, bne]; done)), H', ⟨by first | omega | exact Nat.le_refl _⟩, ⟨bU BK394.out⟩, ⟨wV HB.out GE394.out⟩⟩
 case rest =>
  clear HC6; (try clear c1); (try clear c2); (try clear p2); (try clear c9); (try clear c10); (try clear c10b0); (try clear c10b1); (try clear c12); (try clear c12b0); (try clear c12b1); (try clear hcz11_0); (try clear hcz11_1); (try clear hcz11_2); (try clear hcz13_0); (try clear hcz13_1); (try clear hcz13_2); (try clear hcz14_0); (try clear hcz14_1); (try clear hcz14_2); (try clear hfz11_0); (try clear hfz11_1)
  (try clear hfz11_2); (try clear hfz13_0); (try clear hfz13_1); (try clear hfz13_2); (try clear hfz14_0); (try clear hfz14_1); (try clear hfz14_2)
  obtain ⟨kq, x34_5, rfl, HA, HJ5, BK394, HB⟩ := hcut
  cases kq with
  | zero => exact absurd HA.out (by simp [exegetelaw14_TermTells.j0])
  | succ kj5 =>
   have H := HA.out
   clear HA
   simp only [exegetelaw14_TermTells.j0] at H
   by_cases c15 : x34_5 = true
   · subst c15
     have H1 : (some t395) = some r := by rw [if_pos rfl] at H; exact H
     clear H; have H := H1; clear H1
     obtain rfl := Option.some.inj H
     go_wp2
     go_ret
     exact ⟨by first | rfl | (simp [errW_none, errW_some] <;> rfl) | (simp [*, errW_none, errW_some] <;> rfl), wV HB.out GE394.out⟩
   replace c15 := Bool.eq_false_iff.mpr c15
   subst c15
   have H1 : (exegetelaw14_TermTells.l0 kj5 l1 l2 a3 0 a0_0 l0_1 a0_2) = some r := by rw [if_neg (show ¬ (false = true) by decide)] at H; exact H
   clear H; have H := H1; clear H1; have H' := Aside0.mk H; clear H
   go_wp2
   go_loopg [10] kj5 (fun kq v10 w' => ∃ (x10_2 : Int), v10 = .int .i64 x10_2 ∧ Aside0 (exegetelaw14_TermTells.l0 kq l1 l2 a3 x10_2 a0_0 l0_1 a0_2 = some r) ∧ Aside0 (kq ≤ kj5) ∧ Aside0 (w'.heap[gb394]? = some (.cells #[.int .i64 a0_0, (.slice A0_1 l0_1.length c0_1), .int .i64 a0_2] 43 (0, 0))) ∧ Aside0 (Below w.heap.size w w'))
   case atStart => exact ⟨(0), (by first | rfl | (simp; done) | (simp [*]; done) | (simp [*, bne]; done)), H', ⟨Nat.le_refl _⟩, ⟨bU BK394.out⟩, ⟨wV HB.out GE394.out⟩⟩
   case round =>
    clear H'; (try clear c1); (try clear c2); (try clear p2); (try clear c9); (try clear c10); (try clear c10b0); (try clear c10b1); (try clear c12); (try clear c12b0); (try clear c12b1); (try clear c15); (try clear hcz11_0); (try clear hcz11_1); (try clear hcz11_2); (try clear hcz13_0); (try clear hcz13_1); (try clear hcz13_2); (try clear hcz14_0); (try clear hcz14_1); (try clear hcz14_2); (try clear hfz11_0)
    (try clear hfz11_1); (try clear hfz11_2); (try clear hfz13_0); (try clear hfz13_1); (try clear hfz13_2); (try clear hfz14_0); (try clear hfz14_1); (try clear hfz14_2); (try clear p2)
    obtain ⟨x10_2, rfl, HA, HK2, BK394, HB⟩ := hrel
    cases gk with
    | zero => exact absurd HA.out (by simp [exegetelaw14_TermTells.l0])
    | succ k2 =>
     have H := HA.out
     clear HA
     simp only [exegetelaw14_TermTells.l0] at H
     by_cases c16 : x10_2 < (l1.length : Int)
     · rw [if_pos c16] at H
       have c16b0 : decide (x10_2 < (l1.length : Int)) = true := decide_eq_true c16
       clear c16
       by_cases c17 : 0 ≤ x10_2
       rotate_left
       · rw [if_neg c17] at H
         exact absurd H (by simp)
       rw [if_pos c17] at H
       have c17b0 : decide (0 ≤ x10_2) = true := decide_eq_true c17
       clear c17
       by_cases c18 : (((rd_T43 l1 x10_2).f1).length : Int) > 20
       · rw [if_pos c18] at H
         have c18b0 : decide (20 < (((rd_T43 l1 x10_2).f1).length : Int)) = true := decide_eq_true c18
         have c18b1 : decide (20 < ((rd_T43 l1 x10_2).f1).length) = true := decide_eq_true (by omega)
         clear c18
         obtain rfl := Option.some.inj H
         have p396 : 0 ≤ (x10_2 : Int) := of_decide_eq_true (by first | (with_reducible assumption) | assumption)
         have q396 : x10_2 < (l1.length : Int) := of_decide_eq_true (by first | (with_reducible assumption) | assumption)
         obtain ⟨ad396, A396_1, c396_1, e396, hx396_0, hx396_1, hx396_2, hl396_1, hi396_1⟩ := at_T43 HR1.out x10_2 p396 q396
         cases e396
         replace hx396_0 := (HB.out.cell (World.block_lt_of_cell? w _ hx396_0)).trans hx396_0
         replace hx396_1 := (HB.out.cell (World.block_lt_of_cell? w _ hx396_1)).trans hx396_1
         replace hx396_2 := (HB.out.cell (World.block_lt_of_cell? w _ hx396_2)).trans hx396_2
         have HR396_1 := Aside0.mk hi396_1
         have HC396_1 := Aside0.mk hl396_1
         clear hi396_1 hl396_1; replace p396 := eq_true p396; replace q396 := eq_true q396
         go_wp2
         go_ret
         exact ⟨by first | rfl | (simp [errW_none, errW_some] <;> rfl) | (simp [*, errW_none, errW_some] <;> rfl), wV HB.out GE394.out⟩
       rw [if_neg c18] at H
       have c18b0 : decide (20 < (((rd_T43 l1 x10_2).f1).length : Int)) = false := decide_eq_false c18
       have c18b1 : decide (20 < ((rd_T43 l1 x10_2).f1).length) = false := decide_eq_false (by omega)
       clear c18; have H' := Aside0.mk H; clear H
       have p396 : 0 ≤ (x10_2 : Int) := of_decide_eq_true (by first | (with_reducible assumption) | assumption)
       have q396 : x10_2 < (l1.length : Int) := of_decide_eq_true (by first | (with_reducible assumption) | assumption)
       obtain ⟨ad396, A396_1, c396_1, e396, hx396_0, hx396_1, hx396_2, hl396_1, hi396_1⟩ := at_T43 HR1.out x10_2 p396 q396
       cases e396
       replace hx396_0 := (HB.out.cell (World.block_lt_of_cell? w _ hx396_0)).trans hx396_0
       replace hx396_1 := (HB.out.cell (World.block_lt_of_cell? w _ hx396_1)).trans hx396_1
       replace hx396_2 := (HB.out.cell (World.block_lt_of_cell? w _ hx396_2)).trans hx396_2
       have HR396_1 := Aside0.mk hi396_1
       have HC396_1 := Aside0.mk hl396_1
       clear hi396_1 hl396_1; replace p396 := eq_true p396; replace q396 := eq_true q396
       go_wp2
       go_roundg k2
       case measure => have := HJ5.out; have := HK2.out; omega
       case rel => exact ⟨(wrap64 (x10_2 + 1)), (by first | rfl | (simp; done) | (simp [*]; done) | (simp [*, bne]; done)), H', ⟨by have := HJ5.out; have := HK2.out; omega⟩, ⟨bU BK394.out⟩, ⟨wV HB.out GE394.out⟩⟩
     rw [if_neg c16] at H
     have c16b0 : decide (x10_2 < (l1.length : Int)) = false := decide_eq_false c16
     clear c16
     replace H := Option.bind_eq_some_iff.mp H
     obtain ⟨⟨t397, t398⟩, A190, H⟩ := H
     replace H : ((exegeteref14_Match.f k2 a0_0 l0_1 a0_2 l2 a3).bind fun bt399 => ((term_Texts.f k2 l1 l2 a3).bind fun t401 => ((exegeteref14_Texts.f k2 l1 l2 a3).bind fun t404 => ((exegeteref04_Ints.f k2 t401 t404).bind fun t407 => (if t407 = true then (if t397 = bt399.1 then (if (t398 == bt399.2) = true then ((term_Part.f k2 a0_0 l0_1 a0_2 l2 a3).bind fun t408 => ((exegeteref14_Part.f k2 a0_0 l0_1 a0_2 l2 a3).bind fun t409 => (some (t408 == t409)))) else (some false)) else (some false)) else (some false)))))) = some r := H
     have A19 := Aside0.mk A190
     clear A190
     replace H := Option.bind_eq_some_iff.mp H
     obtain ⟨⟨t399, t400⟩, A200, H⟩ := H
     replace H : ((term_Texts.f k2 l1 l2 a3).bind fun t401 => ((exegeteref14_Texts.f k2 l1 l2 a3).bind fun t404 => ((exegeteref04_Ints.f k2 t401 t404).bind fun t407 => (if t407 = true then (if t397 = t399 then (if (t398 == t400) = true then ((term_Part.f k2 a0_0 l0_1 a0_2 l2 a3).bind fun t408 => ((exegeteref14_Part.f k2 a0_0 l0_1 a0_2 l2 a3).bind fun t409 => (some (t408 == t409)))) else (some false)) else (some false)) else (some false))))) = some r := H
     have A20 := Aside0.mk A200
     clear A200
     replace H := Option.bind_eq_some_iff.mp H
     obtain ⟨t401, A210, H⟩ := H
     replace H : ((exegeteref14_Texts.f k2 l1 l2 a3).bind fun t404 => ((exegeteref04_Ints.f k2 t401 t404).bind fun t407 => (if t407 = true then (if t397 = t399 then (if (t398 == t400) = true then ((term_Part.f k2 a0_0 l0_1 a0_2 l2 a3).bind fun t408 => ((exegeteref14_Part.f k2 a0_0 l0_1 a0_2 l2 a3).bind fun t409 => (some (t408 == t409)))) else (some false)) else (some false)) else (some false)))) = some r := H
     have A21 := Aside0.mk A210
     clear A210
     replace H := Option.bind_eq_some_iff.mp H
     obtain ⟨t404, A220, H⟩ := H
     replace H : ((exegeteref04_Ints.f k2 t401 t404).bind fun t407 => (if t407 = true then (if t397 = t399 then (if (t398 == t400) = true then ((term_Part.f k2 a0_0 l0_1 a0_2 l2 a3).bind fun t408 => ((exegeteref14_Part.f k2 a0_0 l0_1 a0_2 l2 a3).bind fun t409 => (some (t408 == t409)))) else (some false)) else (some false)) else (some false))) = some r := H
     have A22 := Aside0.mk A220
     clear A220
     replace H := Option.bind_eq_some_iff.mp H
     obtain ⟨t407, A230, H⟩ := H
     replace H : (if t407 = true then (if t397 = t399 then (if (t398 == t400) = true then ((term_Part.f k2 a0_0 l0_1 a0_2 l2 a3).bind fun t408 => ((exegeteref14_Part.f k2 a0_0 l0_1 a0_2 l2 a3).bind fun t409 => (some (t408 == t409)))) else (some false)) else (some false)) else (some false)) = some r := H
     have A23 := Aside0.mk A230
     clear A230
     by_cases c24 : t407 = true
     rotate_left
     · replace c24 := Bool.eq_false_iff.mpr c24
       subst c24
       have H1 : (some false) = some r := by rw [if_neg (show ¬ (false = true) by decide)] at H; exact H
       clear H; have H := H1; clear H1
       obtain rfl := Option.some.inj H
       have hcz58_0 : wr.cell? ⟨gb394, 0, none⟩ = some (.int .i64 a0_0) := (blk_cell BK394.out 0).trans rfl
       have hcz58_1 : wr.cell? ⟨gb394, 1, none⟩ = some (.slice A0_1 l0_1.length c0_1) := (blk_cell BK394.out 1).trans rfl
       have hcz58_2 : wr.cell? ⟨gb394, 2, none⟩ = some (.int .i64 a0_2) := (blk_cell BK394.out 2).trans rfl
       have hfz58_0 := blk_frozen BK394.out 0
       have hfz58_1 := blk_frozen BK394.out 1
       have hfz58_2 := blk_frozen BK394.out 2
       try go_wp2_with (first | ((with_reducible refine gate_callee (f := 25) rfl ?_); refine goesL_ (some 53) rfl rfl Try.func25 (by kernel_rfl) rfl #[.agg #[.int .i64 a0_0, .slice A0_1 l0_1.length c0_1, .int .i64 a0_2], .slice A2 l2.length c2, .int .i64 a3] rfl (by (try simp only [List.map_toArray, List.map_cons, List.map_nil]); first | done | rfl | (simp only [List.length_drop, List.length_take]; rfl)) ?_; (with_reducible refine (term_Match.calls k2 a0_0 _ _ l0_1 a0_2 _ _ l2 a3 t397 t398 _ ?side1 ?side2 ?side3 ?side4 A19.out).mono ?_); (case side1 => exact cU (Kd.C_below HR0_1.out HB.out)); (case side2 => exact HC0_1.out); (case side3 => exact cU (Kd.C_below HR2.out HB.out)); (case side4 => exact HC2.out); rintro e w59 ⟨rfl, hb⟩; refine ⟨_, rfl, ?_⟩; have n0_ := Aside0.mk (blk_below (g := gb394) (o := .cells #[.int .i64 a0_0, .slice A0_1 l0_1.length c0_1, .int .i64 a0_2] 43 (0, 0)) (bU BK394.out) hb); have n1_ := Aside0.mk (below_step (wV HB.out GE394.out) hb); clear BK394; clear HB; have BK394 := n0_; have HB := n1_; clear n0_ n1_; (try clear hb); (try clear hb2); (try clear hk); (try clear hi); have hcz60_0 : w59.cell? ⟨gb394, 0, none⟩ = some (.int .i64 a0_0) := (blk_cell BK394.out 0).trans rfl; have hcz60_1 : w59.cell? ⟨gb394, 1, none⟩ = some (.slice A0_1 l0_1.length c0_1) := (blk_cell BK394.out 1).trans rfl; have hcz60_2 : w59.cell? ⟨gb394, 2, none⟩ = some (.int .i64 a0_2) := (blk_cell BK394.out 2).trans rfl; have hfz60_0 := blk_frozen BK394.out 0; have hfz60_1 := blk_frozen BK394.out 1; have hfz60_2 := blk_frozen BK394.out 2) | ((with_reducible refine gate_callee (f := 26) rfl ?_); refine goesL_ (some 60) rfl rfl Try.func26 (by kernel_rfl) rfl #[.agg #[.int .i64 a0_0, .slice A0_1 l0_1.length c0_1, .int .i64 a0_2], .slice A2 l2.length c2, .int .i64 a3] rfl (by (try simp only [List.map_toArray, List.map_cons, List.map_nil]); first | done | rfl | (simp only [List.length_drop, List.length_take]; rfl)) ?_; (with_reducible refine (exegeteref14_Match.calls k2 a0_0 _ _ l0_1 a0_2 _ _ l2 a3 t399 t400 _ ?side1 ?side2 ?side3 ?side4 A20.out).mono ?_); (case side1 => exact cU (Kd.C_below HR0_1.out HB.out)); (case side2 => exact HC0_1.out); (case side3 => exact cU (Kd.C_below HR2.out HB.out)); (case side4 => exact HC2.out); rintro e w61 ⟨rfl, hb⟩; refine ⟨_, rfl, ?_⟩; have n0_ := Aside0.mk (blk_below (g := gb394) (o := .cells #[.int .i64 a0_0, .slice A0_1 l0_1.length c0_1, .int .i64 a0_2] 43 (0, 0)) (bU BK394.out) hb); have n1_ := Aside0.mk (below_step (wV HB.out GE394.out) hb); clear BK394; clear HB; have BK394 := n0_; have HB := n1_; clear n0_ n1_; (try clear hb); (try clear hb2); (try clear hk); (try clear hi)) | ((with_reducible refine gate_callee (f := 28) rfl ?_); refine goesL_ (some 66) rfl rfl Try.func28 (by kernel_rfl) rfl #[.slice A1 l1.length c1, .slice A2 l2.length c2, .int .i64 a3] rfl (by (try simp only [List.map_toArray, List.map_cons, List.map_nil]); first | done | rfl | (simp only [List.length_drop, List.length_take]; rfl)) ?_; (with_reducible refine (term_Texts.calls k2 _ _ l1 _ _ l2 a3 t401 _ ?side1 ?side2 ?side3 ?side4 A21.out).mono ?_); (case side1 => exact cU (Kd.C_below HR1.out HB.out)); (case side2 => exact HC1.out); (case side3 => exact cU (Kd.C_below HR2.out HB.out)); (case side4 => exact HC2.out); rintro e w62 ⟨v402, rfl, ho0, hb⟩; refine ⟨_, rfl, ?_⟩; have n0_ := Aside0.mk (Kd.R_lower ho0 (below_size (wV HB.out GE394.out))); have n1_ := Aside0.mk (blk_below (g := gb394) (o := .cells #[.int .i64 a0_0, .slice A0_1 l0_1.length c0_1, .int .i64 a0_2] 43 (0, 0)) (bU BK394.out) hb); have n2_ := Aside0.mk (below_step (wV HB.out GE394.out) hb); clear BK394; clear HB; have HO403 := n0_; have BK394 := n1_; have HB := n2_; clear n0_ n1_ n2_; (try clear hb); (try clear hb2); (try clear hk); (try clear hi); (try clear ho0)) | ((with_reducible refine gate_callee (f := 29) rfl ?_); refine goesL_ (some 70) rfl rfl Try.func29 (by kernel_rfl) rfl #[.slice A1 l1.length c1, .slice A2 l2.length c2, .int .i64 a3] rfl (by (try simp only [List.map_toArray, List.map_cons, List.map_nil]); first | done | rfl | (simp only [List.length_drop, List.length_take]; rfl)) ?_; (with_reducible refine (exegeteref14_Texts.calls k2 _ _ l1 _ _ l2 a3 t404 _ ?side1 ?side2 ?side3 ?side4 A22.out).mono ?_); (case side1 => exact cU (Kd.C_below HR1.out HB.out)); (case side2 => exact HC1.out); (case side3 => exact cU (Kd.C_below HR2.out HB.out)); (case side4 => exact HC2.out); rintro e w63 ⟨v405, rfl, ho0, hb⟩; refine ⟨_, rfl, ?_⟩; have n0_ := Aside0.mk (Kd.R_elder' (rU HO403.out) (Kd.R_base ho0) hb); have n1_ := Aside0.mk (Kd.R_lower (Kd.R_new' ho0 (Kd.R_lt (rU HO403.out))) (below_size (wV HB.out GE394.out))); have n2_ := Aside0.mk (blk_below (g := gb394) (o := .cells #[.int .i64 a0_0, .slice A0_1 l0_1.length c0_1, .int .i64 a0_2] 43 (0, 0)) (bU BK394.out) hb); have n3_ := Aside0.mk (below_step (wV HB.out GE394.out) hb); clear HO403; clear BK394; clear HB; have HO403 := n0_; have HO406 := n1_; have BK394 := n2_; have HB := n3_; clear n0_ n1_ n2_ n3_; (try clear hb); (try clear hb2); (try clear hk); (try clear hi); (try clear ho0); obtain ⟨Ao64, co64, eo64⟩ := Kd.R_slice HO403.out; subst eo64; obtain ⟨Ao65, co65, eo65⟩ := Kd.R_slice HO406.out; subst eo65) | ((with_reducible refine gate_callee (f := 27) rfl ?_); refine goesL_ (some 71) rfl rfl Try.func27 (by kernel_rfl) rfl #[.slice Ao64 t401.length co64, .slice Ao65 t404.length co65] rfl (by (try simp only [List.map_toArray, List.map_cons, List.map_nil]); first | done | rfl | (simp only [List.length_drop, List.length_take]; rfl)) ?_; (with_reducible refine (exegeteref04_Ints.calls k2 _ _ t401 _ _ t404 false _ ?side1 ?side2 ?side3 ?side4 A23.out).mono ?_); (case side1 => exact cU (Kd.R_reads' HO403.out).2.2); (case side2 => exact (Kd.R_reads' HO403.out).2.1); (case side3 => exact cU (Kd.R_reads' HO406.out).2.2); (case side4 => exact (Kd.R_reads' HO406.out).2.1); rintro e w' ⟨rfl, ⟨nd, rfl⟩⟩; refine ⟨_, rfl, ?_⟩))
       (try (rw [drewN_self w63]; generalize hq_ : World.drewN w63 _ = w63; have n0_ : Aside0 (Kd.R (Kd.int .i64) 3 w63 w.heap.size (fun k_ => some k_ ≠ (.slice Ao65 t404.length co65 : Value).ownBlock) (.slice Ao64 t401.length co64) t401) := ⟨by rw [← hq_]; exact (by (with_reducible repeat (first | apply Kd.R_alloc | apply Kd.R_drewN | apply Kd.R_drew)); exact Kd.R_mono HO403.out (fun _ hk => hk.2))⟩; have n1_ : Aside0 (Kd.R (Kd.int .i64) 3 w63 w.heap.size (fun k_ => some k_ ≠ (.slice Ao64 t401.length co64 : Value).ownBlock) (.slice Ao65 t404.length co65) t404) := ⟨by rw [← hq_]; exact (by (with_reducible repeat (first | apply Kd.R_alloc | apply Kd.R_drewN | apply Kd.R_drew)); exact Kd.R_mono HO406.out (fun _ hk => hk.2))⟩; have n2_ : Aside0 (w63.heap[gb394]? = some (.cells #[.int .i64 a0_0, .slice A0_1 l0_1.length c0_1, .int .i64 a0_2] 43 (0, 0))) := ⟨by rw [← hq_]; exact (bU BK394.out)⟩; have n3_ : Aside0 (Below w.heap.size w w63) := ⟨by rw [← hq_]; exact (wV HB.out GE394.out)⟩; clear HO403 HO406 BK394 HB hq_; have HO403 := n0_; have HO406 := n1_; have BK394 := n2_; have HB := n3_; clear n0_ n1_ n2_ n3_))
       have n0_ := Aside0.mk (Kd.R_drew HO403.out)
       have n1_ := Aside0.mk (Kd.R_drew HO406.out)
       have n2_ := Aside0.mk (blk_drew BK394.out)
       have n3_ := Aside0.mk (below_drew1 HB.out)
       clear HO403 HO406 BK394 HB; have HO403 := n0_; have HO406 := n1_; have BK394 := n2_; have HB := n3_; clear n0_ n1_ n2_ n3_
       refine start_ (n := 23) (S := fun w' => True) (ds := []) #[false, false, false, false, false, false, false, false, false, false, false, false, false, false, false, false, false, false, false, false, false, false, false] (by kernel_rfl) rfl rfl trivial (fun hHeld => ?_); refine with_tabW exegetelaw14_TermTells.tab12 exegetelaw14_TermTells.bits12 (fun HT_ HW_ => ?_)
       generalize w63.drew = w66 at HO403 HO406 BK394 HB hHeld ⊢
       refine pure_ (i := 0) (N := some 72) (v := ?_) (a' := ?_) #[true, false, false, false, false, false, false, false, false, false, false, false, false, false, false, false, false, false, false, false, false, false, false] rfl rfl (any_of HT_.out (by kernel_rfl)) (fun _ _ _ h => h) (Or.inl ⟨by rfl, ?_⟩) ?_ ?_
       rotate_left
       · intro w'
         go_simp
         with_reducible rfl
       rotate_left
       · simp only [Act.put, qA, qB, qC, i64_w, i32_w]
         rfl
       refine pure_ (i := 1) (N := some 73) (v := ?_) (a' := ?_) #[true, true, false, false, false, false, false, false, false, false, false, false, false, false, false, false, false, false, false, false, false, false, false] rfl rfl (any_of HT_.out (by kernel_rfl)) (fun _ _ _ h => h) (Or.inl ⟨by rfl, ?_⟩) ?_ ?_
       rotate_left
       · intro w'
         go_simp
         with_reducible rfl
       rotate_left
       · simp only [Act.put, qA, qB, qC, i64_w, i32_w]
         rfl
       refine pure_ (i := 2) (N := some 74) (v := undef) (a' := ?_) #[true, true, true, false, false, false, false, false, false, false, false, false, false, false, false, false, false, false, false, false, false, false, false] rfl rfl (any_of HT_.out (by kernel_rfl)) (fun _ _ _ h => h) (Or.inr ⟨by rfl, rfl⟩) ?_ ?_
       rotate_left
       · simp only [Act.put, qA, qB, qC, i64_w, i32_w]
         rfl
       refine pure_ (i := 3) (N := some 75) (v := undef) (a' := ?_) #[true, true, true, true, false, false, false, false, false, false, false, false, false, false, false, false, false, false, false, false, false, false, false] rfl rfl (any_of HT_.out (by kernel_rfl)) (fun _ _ _ h => h) (Or.inr ⟨by rfl, rfl⟩) ?_ ?_
       rotate_left
       · simp only [Act.put, qA, qB, qC, i64_w, i32_w]
         rfl
       refine pure_ (i := 4) (N := some 76) (v := undef) (a' := ?_) #[true, true, true, true, true, false, false, false, false, false, false, false, false, false, false, false, false, false, false, false, false, false, false] rfl rfl (any_of HT_.out (by kernel_rfl)) (fun _ _ _ h => h) (Or.inr ⟨by rfl, rfl⟩) ?_ ?_
       rotate_left
       · simp only [Act.put, qA, qB, qC, i64_w, i32_w]
         rfl
       refine pure_ (i := 5) (N := some 77) (v := ?_) (a' := ?_) #[true, true, true, true, true, true, false, false, false, false, false, false, false, false, false, false, false, false, false, false, false, false, false] rfl rfl (any_of HT_.out (by kernel_rfl)) (fun _ _ _ h => h) (Or.inl ⟨by rfl, ?_⟩) ?_ ?_
       rotate_left
       · intro w'
         go_simp
         with_reducible rfl
       rotate_left
       · simp only [Act.put, qA, qB, qC, i64_w, i32_w]
         rfl
       refine pure_ (i := 6) (N := some 78) (v := ?_) (a' := ?_) #[true, true, true, true, true, true, true, false, false, false, false, false, false, false, false, false, false, false, false, false, false, false, false] rfl rfl (any_of HT_.out (by kernel_rfl)) (fun _ _ _ h => h) (Or.inl ⟨by rfl, ?_⟩) ?_ ?_
       rotate_left
       · intro w'
         go_simp
         with_reducible rfl
       rotate_left
       · simp only [Act.put, qA, qB, qC, i64_w, i32_w]
         rfl
       refine pure_ (i := 7) (N := some 79) (v := undef) (a' := ?_) #[true, true, true, true, true, true, true, true, false, false, false, false, false, false, false, false, false, false, false, false, false, false, false] rfl rfl (any_of HT_.out (by kernel_rfl)) (fun _ _ _ h => h) (Or.inr ⟨by rfl, rfl⟩) ?_ ?_
       rotate_left
       · simp only [Act.put, qA, qB, qC, i64_w, i32_w]
         rfl
       refine pure_ (i := 8) (N := some 80) (v := undef) (a' := ?_) #[true, true, true, true, true, true, true, true, true, false, false, false, false, false, false, false, false, false, false, false, false, false, false] rfl rfl (any_of HT_.out (by kernel_rfl)) (fun _ _ _ h => h) (Or.inr ⟨by rfl, rfl⟩) ?_ ?_
       rotate_left
       · simp only [Act.put, qA, qB, qC, i64_w, i32_w]
         rfl
       refine pure_ (i := 9) (N := some 81) (v := undef) (a' := ?_) #[true, true, true, true, true, true, true, true, true, true, false, false, false, false, false, false, false, false, false, false, false, false, false] rfl rfl (any_of HT_.out (by kernel_rfl)) (fun _ _ _ h => h) (Or.inr ⟨by rfl, rfl⟩) ?_ ?_
       rotate_left
       · simp only [Act.put, qA, qB, qC, i64_w, i32_w]
         rfl
       refine pure_ (i := 10) (N := some 82) (v := ?_) (a' := ?_) #[true, true, true, true, true, true, true, true, true, true, true, false, false, false, false, false, false, false, false, false, false, false, false] rfl rfl (any_of HT_.out (by kernel_rfl)) (fun _ _ _ h => h) (Or.inl ⟨by rfl, ?_⟩) ?_ ?_
       rotate_left
       · intro w'
         go_simp
         with_reducible rfl
       rotate_left
       · simp only [Act.put, qA, qB, qC, i64_w, i32_w]
         rfl
       refine pure_ (i := 11) (N := some 83) (v := ?_) (a' := ?_) #[true, true, true, true, true, true, true, true, true, true, true, true, false, false, false, false, false, false, false, false, false, false, false] rfl rfl (any_of HT_.out (by kernel_rfl)) (fun _ _ _ h => h) (Or.inl ⟨by rfl, ?_⟩) ?_ ?_
       rotate_left
       · intro w'
         go_simp
         with_reducible rfl
       rotate_left
       · simp only [Act.put, qA, qB, qC, i64_w, i32_w]
         rfl
       refine pure_ (i := 12) (N := some 84) (v := undef) (a' := ?_) #[true, true, true, true, true, true, true, true, true, true, true, true, true, false, false, false, false, false, false, false, false, false, false] rfl rfl (any_of HT_.out (by kernel_rfl)) (fun _ _ _ h => h) (Or.inr ⟨by rfl, rfl⟩) ?_ ?_
       rotate_left
       · simp only [Act.put, qA, qB, qC, i64_w, i32_w]
         rfl
       refine pure_ (i := 13) (N := some 85) (v := undef) (a' := ?_) #[true, true, true, true, true, true, true, true, true, true, true, true, true, true, false, false, false, false, false, false, false, false, false] rfl rfl (any_of HT_.out (by kernel_rfl)) (fun _ _ _ h => h) (Or.inr ⟨by rfl, rfl⟩) ?_ ?_
       rotate_left
       · simp only [Act.put, qA, qB, qC, i64_w, i32_w]
         rfl
       refine pure_ (i := 14) (N := some 86) (v := undef) (a' := ?_) #[true, true, true, true, true, true, true, true, true, true, true, true, true, true, true, false, false, false, false, false, false, false, false] rfl rfl (any_of HT_.out (by kernel_rfl)) (fun _ _ _ h => h) (Or.inr ⟨by rfl, rfl⟩) ?_ ?_
       rotate_left
       · simp only [Act.put, qA, qB, qC, i64_w, i32_w]
         rfl
       refine pure_ (i := 15) (N := some 87) (v := undef) (a' := ?_) #[true, true, true, true, true, true, true, true, true, true, true, true, true, true, true, true, false, false, false, false, false, false, false] rfl rfl (any_of HT_.out (by kernel_rfl)) (fun _ _ _ h => h) (Or.inr ⟨by rfl, rfl⟩) ?_ ?_
       rotate_left
       · simp only [Act.put, qA, qB, qC, i64_w, i32_w]
         rfl
       refine pure_ (i := 16) (N := some 88) (v := undef) (a' := ?_) #[true, true, true, true, true, true, true, true, true, true, true, true, true, true, true, true, true, false, false, false, false, false, false] rfl rfl (any_of HT_.out (by kernel_rfl)) (fun _ _ _ h => h) (Or.inr ⟨by rfl, rfl⟩) ?_ ?_
       rotate_left
       · simp only [Act.put, qA, qB, qC, i64_w, i32_w]
         rfl
       refine pure_ (i := 17) (N := some 89) (v := undef) (a' := ?_) #[true, true, true, true, true, true, true, true, true, true, true, true, true, true, true, true, true, true, false, false, false, false, false] rfl rfl (any_of HT_.out (by kernel_rfl)) (fun _ _ _ h => h) (Or.inr ⟨by rfl, rfl⟩) ?_ ?_
       rotate_left
       · simp only [Act.put, qA, qB, qC, i64_w, i32_w]
         rfl
       refine pure_ (i := 18) (N := some 90) (v := undef) (a' := ?_) #[true, true, true, true, true, true, true, true, true, true, true, true, true, true, true, true, true, true, true, false, false, false, false] rfl rfl (any_of HT_.out (by kernel_rfl)) (fun _ _ _ h => h) (Or.inr ⟨by rfl, rfl⟩) ?_ ?_
       rotate_left
       · simp only [Act.put, qA, qB, qC, i64_w, i32_w]
         rfl
       refine pure_ (i := 19) (N := some 91) (v := undef) (a' := ?_) #[true, true, true, true, true, true, true, true, true, true, true, true, true, true, true, true, true, true, true, true, false, false, false] rfl rfl (any_of HT_.out (by kernel_rfl)) (fun _ _ _ h => h) (Or.inr ⟨by rfl, rfl⟩) ?_ ?_
       rotate_left
       · simp only [Act.put, qA, qB, qC, i64_w, i32_w]
         rfl
       refine pure_ (i := 20) (N := some 92) (v := undef) (a' := ?_) #[true, true, true, true, true, true, true, true, true, true, true, true, true, true, true, true, true, true, true, true, true, false, false] rfl rfl (any_of HT_.out (by kernel_rfl)) (fun _ _ _ h => h) (Or.inr ⟨by rfl, rfl⟩) ?_ ?_
       rotate_left
       · simp only [Act.put, qA, qB, qC, i64_w, i32_w]
         rfl
       refine pure_ (i := 21) (N := some 93) (v := ?_) (a' := ?_) #[true, true, true, true, true, true, true, true, true, true, true, true, true, true, true, true, true, true, true, true, true, true, false] rfl rfl (any_of HT_.out (by kernel_rfl)) (fun _ _ _ h => h) (Or.inl ⟨by rfl, ?_⟩) ?_ ?_
       rotate_left
       · intro w'
         go_simp
         with_reducible rfl
       rotate_left
       · simp only [Act.put, qA, qB, qC, i64_w, i32_w]
         rfl
       refine pure_ (i := 22) (N := some 8) (v := ?_) (a' := ?_) #[true, true, true, true, true, true, true, true, true, true, true, true, true, true, true, true, true, true, true, true, true, true, true] rfl rfl (any_of HT_.out (by kernel_rfl)) (fun _ _ _ h => h) (Or.inl ⟨by rfl, ?_⟩) ?_ ?_
       rotate_left
       · intro w'
         go_simp
         with_reducible rfl
       rotate_left
       · simp only [Act.put, qA, qB, qC, i64_w, i32_w]
         rfl
       refine done_ (done_of HT_.out (by kernel_rfl)) ?_
       try go_wp2
       go_ret
       exact ⟨by first | rfl | (simp [errW_none, errW_some] <;> rfl) | (simp [*, errW_none, errW_some] <;> rfl), wV HB.out GE394.out⟩
     subst c24
     have H1 : (if t397 = t399 then (if (t398 == t400) = true then ((term_Part.f k2 a0_0 l0_1 a0_2 l2 a3).bind fun t408 => ((exegeteref14_Part.f k2 a0_0 l0_1 a0_2 l2 a3).bind fun t409 => (some (t408 == t409)))) else (some false)) else (some false)) = some r := by rw [if_pos rfl] at H; exact H
     clear H; have H := H1; clear H1
     by_cases c25 : t397 = t399
     rotate_left
     · rw [if_neg c25] at H
       have c25b0 : (t397 == t399) = false := beq_eq_false_iff_ne.mpr c25
       have c25b1 : (t397 != t399) = true := bne_iff_ne.mpr c25
       obtain rfl := Option.some.inj H
       have hcz49_0 : wr.cell? ⟨gb394, 0, none⟩ = some (.int .i64 a0_0) := (blk_cell BK394.out 0).trans rfl
       have hcz49_1 : wr.cell? ⟨gb394, 1, none⟩ = some (.slice A0_1 l0_1.length c0_1) := (blk_cell BK394.out 1).trans rfl
       have hcz49_2 : wr.cell? ⟨gb394, 2, none⟩ = some (.int .i64 a0_2) := (blk_cell BK394.out 2).trans rfl
       have hfz49_0 := blk_frozen BK394.out 0
       have hfz49_1 := blk_frozen BK394.out 1
       have hfz49_2 := blk_frozen BK394.out 2
       try go_wp2_with (first | ((with_reducible refine gate_callee (f := 25) rfl ?_); refine goesL_ (some 53) rfl rfl Try.func25 (by kernel_rfl) rfl #[.agg #[.int .i64 a0_0, .slice A0_1 l0_1.length c0_1, .int .i64 a0_2], .slice A2 l2.length c2, .int .i64 a3] rfl (by (try simp only [List.map_toArray, List.map_cons, List.map_nil]); first | done | rfl | (simp only [List.length_drop, List.length_take]; rfl)) ?_; (with_reducible refine (term_Match.calls k2 a0_0 _ _ l0_1 a0_2 _ _ l2 a3 t397 t398 _ ?side1 ?side2 ?side3 ?side4 A19.out).mono ?_); (case side1 => exact cU (Kd.C_below HR0_1.out HB.out)); (case side2 => exact HC0_1.out); (case side3 => exact cU (Kd.C_below HR2.out HB.out)); (case side4 => exact HC2.out); rintro e w50 ⟨rfl, hb⟩; refine ⟨_, rfl, ?_⟩; have n0_ := Aside0.mk (blk_below (g := gb394) (o := .cells #[.int .i64 a0_0, .slice A0_1 l0_1.length c0_1, .int .i64 a0_2] 43 (0, 0)) (bU BK394.out) hb); have n1_ := Aside0.mk (below_step (wV HB.out GE394.out) hb); clear BK394; clear HB; have BK394 := n0_; have HB := n1_; clear n0_ n1_; (try clear hb); (try clear hb2); (try clear hk); (try clear hi); have hcz51_0 : w50.cell? ⟨gb394, 0, none⟩ = some (.int .i64 a0_0) := (blk_cell BK394.out 0).trans rfl; have hcz51_1 : w50.cell? ⟨gb394, 1, none⟩ = some (.slice A0_1 l0_1.length c0_1) := (blk_cell BK394.out 1).trans rfl; have hcz51_2 : w50.cell? ⟨gb394, 2, none⟩ = some (.int .i64 a0_2) := (blk_cell BK394.out 2).trans rfl; have hfz51_0 := blk_frozen BK394.out 0; have hfz51_1 := blk_frozen BK394.out 1; have hfz51_2 := blk_frozen BK394.out 2) | ((with_reducible refine gate_callee (f := 26) rfl ?_); refine goesL_ (some 60) rfl rfl Try.func26 (by kernel_rfl) rfl #[.agg #[.int .i64 a0_0, .slice A0_1 l0_1.length c0_1, .int .i64 a0_2], .slice A2 l2.length c2, .int .i64 a3] rfl (by (try simp only [List.map_toArray, List.map_cons, List.map_nil]); first | done | rfl | (simp only [List.length_drop, List.length_take]; rfl)) ?_; (with_reducible refine (exegeteref14_Match.calls k2 a0_0 _ _ l0_1 a0_2 _ _ l2 a3 t399 t400 _ ?side1 ?side2 ?side3 ?side4 A20.out).mono ?_); (case side1 => exact cU (Kd.C_below HR0_1.out HB.out)); (case side2 => exact HC0_1.out); (case side3 => exact cU (Kd.C_below HR2.out HB.out)); (case side4 => exact HC2.out); rintro e w52 ⟨rfl, hb⟩; refine ⟨_, rfl, ?_⟩; have n0_ := Aside0.mk (blk_below (g := gb394) (o := .cells #[.int .i64 a0_0, .slice A0_1 l0_1.length c0_1, .int .i64 a0_2] 43 (0, 0)) (bU BK394.out) hb); have n1_ := Aside0.mk (below_step (wV HB.out GE394.out) hb); clear BK394; clear HB; have BK394 := n0_; have HB := n1_; clear n0_ n1_; (try clear hb); (try clear hb2); (try clear hk); (try clear hi)) | ((with_reducible refine gate_callee (f := 28) rfl ?_); refine goesL_ (some 66) rfl rfl Try.func28 (by kernel_rfl) rfl #[.slice A1 l1.length c1, .slice A2 l2.length c2, .int .i64 a3] rfl (by (try simp only [List.map_toArray, List.map_cons, List.map_nil]); first | done | rfl | (simp only [List.length_drop, List.length_take]; rfl)) ?_; (with_reducible refine (term_Texts.calls k2 _ _ l1 _ _ l2 a3 t401 _ ?side1 ?side2 ?side3 ?side4 A21.out).mono ?_); (case side1 => exact cU (Kd.C_below HR1.out HB.out)); (case side2 => exact HC1.out); (case side3 => exact cU (Kd.C_below HR2.out HB.out)); (case side4 => exact HC2.out); rintro e w53 ⟨v402, rfl, ho0, hb⟩; refine ⟨_, rfl, ?_⟩; have n0_ := Aside0.mk (Kd.R_lower ho0 (below_size (wV HB.out GE394.out))); have n1_ := Aside0.mk (blk_below (g := gb394) (o := .cells #[.int .i64 a0_0, .slice A0_1 l0_1.length c0_1, .int .i64 a0_2] 43 (0, 0)) (bU BK394.out) hb); have n2_ := Aside0.mk (below_step (wV HB.out GE394.out) hb); clear BK394; clear HB; have HO403 := n0_; have BK394 := n1_; have HB := n2_; clear n0_ n1_ n2_; (try clear hb); (try clear hb2); (try clear hk); (try clear hi); (try clear ho0)) | ((with_reducible refine gate_callee (f := 29) rfl ?_); refine goesL_ (some 70) rfl rfl Try.func29 (by kernel_rfl) rfl #[.slice A1 l1.length c1, .slice A2 l2.length c2, .int .i64 a3] rfl (by (try simp only [List.map_toArray, List.map_cons, List.map_nil]); first | done | rfl | (simp only [List.length_drop, List.length_take]; rfl)) ?_; (with_reducible refine (exegeteref14_Texts.calls k2 _ _ l1 _ _ l2 a3 t404 _ ?side1 ?side2 ?side3 ?side4 A22.out).mono ?_); (case side1 => exact cU (Kd.C_below HR1.out HB.out)); (case side2 => exact HC1.out); (case side3 => exact cU (Kd.C_below HR2.out HB.out)); (case side4 => exact HC2.out); rintro e w54 ⟨v405, rfl, ho0, hb⟩; refine ⟨_, rfl, ?_⟩; have n0_ := Aside0.mk (Kd.R_elder' (rU HO403.out) (Kd.R_base ho0) hb); have n1_ := Aside0.mk (Kd.R_lower (Kd.R_new' ho0 (Kd.R_lt (rU HO403.out))) (below_size (wV HB.out GE394.out))); have n2_ := Aside0.mk (blk_below (g := gb394) (o := .cells #[.int .i64 a0_0, .slice A0_1 l0_1.length c0_1, .int .i64 a0_2] 43 (0, 0)) (bU BK394.out) hb); have n3_ := Aside0.mk (below_step (wV HB.out GE394.out) hb); clear HO403; clear BK394; clear HB; have HO403 := n0_; have HO406 := n1_; have BK394 := n2_; have HB := n3_; clear n0_ n1_ n2_ n3_; (try clear hb); (try clear hb2); (try clear hk); (try clear hi); (try clear ho0); obtain ⟨Ao55, co55, eo55⟩ := Kd.R_slice HO403.out; subst eo55; obtain ⟨Ao56, co56, eo56⟩ := Kd.R_slice HO406.out; subst eo56) | ((with_reducible refine gate_callee (f := 27) rfl ?_); refine goesL_ (some 71) rfl rfl Try.func27 (by kernel_rfl) rfl #[.slice Ao55 t401.length co55, .slice Ao56 t404.length co56] rfl (by (try simp only [List.map_toArray, List.map_cons, List.map_nil]); first | done | rfl | (simp only [List.length_drop, List.length_take]; rfl)) ?_; (with_reducible refine (exegeteref04_Ints.calls k2 _ _ t401 _ _ t404 true _ ?side1 ?side2 ?side3 ?side4 A23.out).mono ?_); (case side1 => exact cU (Kd.R_reads' HO403.out).2.2); (case side2 => exact (Kd.R_reads' HO403.out).2.1); (case side3 => exact cU (Kd.R_reads' HO406.out).2.2); (case side4 => exact (Kd.R_reads' HO406.out).2.1); rintro e w' ⟨rfl, ⟨nd, rfl⟩⟩; refine ⟨_, rfl, ?_⟩))
       (try (rw [drewN_self w54]; generalize hq_ : World.drewN w54 _ = w54; have n0_ : Aside0 (Kd.R (Kd.int .i64) 3 w54 w.heap.size (fun k_ => some k_ ≠ (.slice Ao56 t404.length co56 : Value).ownBlock) (.slice Ao55 t401.length co55) t401) := ⟨by rw [← hq_]; exact (by (with_reducible repeat (first | apply Kd.R_alloc | apply Kd.R_drewN | apply Kd.R_drew)); exact Kd.R_mono HO403.out (fun _ hk => hk.2))⟩; have n1_ : Aside0 (Kd.R (Kd.int .i64) 3 w54 w.heap.size (fun k_ => some k_ ≠ (.slice Ao55 t401.length co55 : Value).ownBlock) (.slice Ao56 t404.length co56) t404) := ⟨by rw [← hq_]; exact (by (with_reducible repeat (first | apply Kd.R_alloc | apply Kd.R_drewN | apply Kd.R_drew)); exact Kd.R_mono HO406.out (fun _ hk => hk.2))⟩; have n2_ : Aside0 (w54.heap[gb394]? = some (.cells #[.int .i64 a0_0, .slice A0_1 l0_1.length c0_1, .int .i64 a0_2] 43 (0, 0))) := ⟨by rw [← hq_]; exact (bU BK394.out)⟩; have n3_ : Aside0 (Below w.heap.size w w54) := ⟨by rw [← hq_]; exact (wV HB.out GE394.out)⟩; clear HO403 HO406 BK394 HB hq_; have HO403 := n0_; have HO406 := n1_; have BK394 := n2_; have HB := n3_; clear n0_ n1_ n2_ n3_))
       have n0_ := Aside0.mk (Kd.R_drew HO403.out)
       have n1_ := Aside0.mk (Kd.R_drew HO406.out)
       have n2_ := Aside0.mk (blk_drew BK394.out)
       have n3_ := Aside0.mk (below_drew1 HB.out)
       clear HO403 HO406 BK394 HB; have HO403 := n0_; have HO406 := n1_; have BK394 := n2_; have HB := n3_; clear n0_ n1_ n2_ n3_
       refine start_ (n := 23) (S := fun w' => True) (ds := []) #[false, false, false, false, false, false, false, false, false, false, false, false, false, false, false, false, false, false, false, false, false, false, false] (by kernel_rfl) rfl rfl trivial (fun hHeld => ?_); refine with_tabW exegetelaw14_TermTells.tab12 exegetelaw14_TermTells.bits12 (fun HT_ HW_ => ?_)
       generalize w54.drew = w57 at HO403 HO406 BK394 HB hHeld ⊢
       refine pure_ (i := 0) (N := some 72) (v := ?_) (a' := ?_) #[true, false, false, false, false, false, false, false, false, false, false, false, false, false, false, false, false, false, false, false, false, false, false] rfl rfl (any_of HT_.out (by kernel_rfl)) (fun _ _ _ h => h) (Or.inl ⟨by rfl, ?_⟩) ?_ ?_
       rotate_left
       · intro w'
         go_simp
         with_reducible rfl
       rotate_left
       · simp only [Act.put, qA, qB, qC, i64_w, i32_w]
         rfl
       refine pure_ (i := 1) (N := some 73) (v := ?_) (a' := ?_) #[true, true, false, false, false, false, false, false, false, false, false, false, false, false, false, false, false, false, false, false, false, false, false] rfl rfl (any_of HT_.out (by kernel_rfl)) (fun _ _ _ h => h) (Or.inl ⟨by rfl, ?_⟩) ?_ ?_
       rotate_left
       · intro w'
         go_simp
         with_reducible rfl
       rotate_left
       · simp only [Act.put, qA, qB, qC, i64_w, i32_w]
         rfl
       refine pure_ (i := 2) (N := some 74) (v := ?_) (a' := ?_) #[true, true, true, false, false, false, false, false, false, false, false, false, false, false, false, false, false, false, false, false, false, false, false] rfl rfl (any_of HT_.out (by kernel_rfl)) (fun _ _ _ h => h) (Or.inl ⟨by rfl, ?_⟩) ?_ ?_
       rotate_left
       · intro w'
         go_simp
         with_reducible rfl
       rotate_left
       · simp only [Act.put, qA, qB, qC, i64_w, i32_w]
         rfl
       refine pure_ (i := 3) (N := some 75) (v := ?_) (a' := ?_) #[true, true, true, true, false, false, false, false, false, false, false, false, false, false, false, false, false, false, false, false, false, false, false] rfl rfl (any_of HT_.out (by kernel_rfl)) (fun _ _ _ h => h) (Or.inl ⟨by rfl, ?_⟩) ?_ ?_
       rotate_left
       · intro w'
         go_simp
         with_reducible rfl
       rotate_left
       · simp only [Act.put, qA, qB, qC, i64_w, i32_w]
         rfl
       refine pure_ (i := 4) (N := some 76) (v := ?_) (a' := ?_) #[true, true, true, true, true, false, false, false, false, false, false, false, false, false, false, false, false, false, false, false, false, false, false] rfl rfl (any_of HT_.out (by kernel_rfl)) (fun _ _ _ h => h) (Or.inl ⟨by rfl, ?_⟩) ?_ ?_
       rotate_left
       · intro w'
         go_simp
         with_reducible rfl
       rotate_left
       · simp only [Act.put, qA, qB, qC, i64_w, i32_w]
         rfl
       refine pure_ (i := 5) (N := some 77) (v := ?_) (a' := ?_) #[true, true, true, true, true, true, false, false, false, false, false, false, false, false, false, false, false, false, false, false, false, false, false] rfl rfl (any_of HT_.out (by kernel_rfl)) (fun _ _ _ h => h) (Or.inl ⟨by rfl, ?_⟩) ?_ ?_
       rotate_left
       · intro w'
         go_simp
         with_reducible rfl
       rotate_left
       · simp only [Act.put, qA, qB, qC, i64_w, i32_w]
         rfl
       refine pure_ (i := 6) (N := some 78) (v := ?_) (a' := ?_) #[true, true, true, true, true, true, true, false, false, false, false, false, false, false, false, false, false, false, false, false, false, false, false] rfl rfl (any_of HT_.out (by kernel_rfl)) (fun _ _ _ h => h) (Or.inl ⟨by rfl, ?_⟩) ?_ ?_
       rotate_left
       · intro w'
         go_simp
         with_reducible rfl
       rotate_left
       · simp only [Act.put, qA, qB, qC, i64_w, i32_w]
         rfl
       refine pure_ (i := 7) (N := some 79) (v := undef) (a' := ?_) #[true, true, true, true, true, true, true, true, false, false, false, false, false, false, false, false, false, false, false, false, false, false, false] rfl rfl (any_of HT_.out (by kernel_rfl)) (fun _ _ _ h => h) (Or.inr ⟨by rfl, rfl⟩) ?_ ?_
       rotate_left
       · simp only [Act.put, qA, qB, qC, i64_w, i32_w]
         rfl
       refine pure_ (i := 8) (N := some 80) (v := undef) (a' := ?_) #[true, true, true, true, true, true, true, true, true, false, false, false, false, false, false, false, false, false, false, false, false, false, false] rfl rfl (any_of HT_.out (by kernel_rfl)) (fun _ _ _ h => h) (Or.inr ⟨by rfl, rfl⟩) ?_ ?_
       rotate_left
       · simp only [Act.put, qA, qB, qC, i64_w, i32_w]
         rfl
       refine pure_ (i := 9) (N := some 81) (v := undef) (a' := ?_) #[true, true, true, true, true, true, true, true, true, true, false, false, false, false, false, false, false, false, false, false, false, false, false] rfl rfl (any_of HT_.out (by kernel_rfl)) (fun _ _ _ h => h) (Or.inr ⟨by rfl, rfl⟩) ?_ ?_
       rotate_left
       · simp only [Act.put, qA, qB, qC, i64_w, i32_w]
         rfl
       refine pure_ (i := 10) (N := some 82) (v := ?_) (a' := ?_) #[true, true, true, true, true, true, true, true, true, true, true, false, false, false, false, false, false, false, false, false, false, false, false] rfl rfl (any_of HT_.out (by kernel_rfl)) (fun _ _ _ h => h) (Or.inl ⟨by rfl, ?_⟩) ?_ ?_
       rotate_left
       · intro w'
         go_simp
         with_reducible rfl
       rotate_left
       · simp only [Act.put, qA, qB, qC, i64_w, i32_w]
         rfl
       refine pure_ (i := 11) (N := some 83) (v := ?_) (a' := ?_) #[true, true, true, true, true, true, true, true, true, true, true, true, false, false, false, false, false, false, false, false, false, false, false] rfl rfl (any_of HT_.out (by kernel_rfl)) (fun _ _ _ h => h) (Or.inl ⟨by rfl, ?_⟩) ?_ ?_
       rotate_left
       · intro w'
         go_simp
         with_reducible rfl
       rotate_left
       · simp only [Act.put, qA, qB, qC, i64_w, i32_w]
         rfl
       refine pure_ (i := 12) (N := some 84) (v := undef) (a' := ?_) #[true, true, true, true, true, true, true, true, true, true, true, true, true, false, false, false, false, false, false, false, false, false, false] rfl rfl (any_of HT_.out (by kernel_rfl)) (fun _ _ _ h => h) (Or.inr ⟨by rfl, rfl⟩) ?_ ?_
       rotate_left
       · simp only [Act.put, qA, qB, qC, i64_w, i32_w]
         rfl
       refine pure_ (i := 13) (N := some 85) (v := undef) (a' := ?_) #[true, true, true, true, true, true, true, true, true, true, true, true, true, true, false, false, false, false, false, false, false, false, false] rfl rfl (any_of HT_.out (by kernel_rfl)) (fun _ _ _ h => h) (Or.inr ⟨by rfl, rfl⟩) ?_ ?_
       rotate_left
       · simp only [Act.put, qA, qB, qC, i64_w, i32_w]
         rfl
       refine pure_ (i := 14) (N := some 86) (v := undef) (a' := ?_) #[true, true, true, true, true, true, true, true, true, true, true, true, true, true, true, false, false, false, false, false, false, false, false] rfl rfl (any_of HT_.out (by kernel_rfl)) (fun _ _ _ h => h) (Or.inr ⟨by rfl, rfl⟩) ?_ ?_
       rotate_left
       · simp only [Act.put, qA, qB, qC, i64_w, i32_w]
         rfl
       refine pure_ (i := 15) (N := some 87) (v := undef) (a' := ?_) #[true, true, true, true, true, true, true, true, true, true, true, true, true, true, true, true, false, false, false, false, false, false, false] rfl rfl (any_of HT_.out (by kernel_rfl)) (fun _ _ _ h => h) (Or.inr ⟨by rfl, rfl⟩) ?_ ?_
       rotate_left
       · simp only [Act.put, qA, qB, qC, i64_w, i32_w]
         rfl
       refine pure_ (i := 16) (N := some 88) (v := undef) (a' := ?_) #[true, true, true, true, true, true, true, true, true, true, true, true, true, true, true, true, true, false, false, false, false, false, false] rfl rfl (any_of HT_.out (by kernel_rfl)) (fun _ _ _ h => h) (Or.inr ⟨by rfl, rfl⟩) ?_ ?_
       rotate_left
       · simp only [Act.put, qA, qB, qC, i64_w, i32_w]
         rfl
       refine pure_ (i := 17) (N := some 89) (v := undef) (a' := ?_) #[true, true, true, true, true, true, true, true, true, true, true, true, true, true, true, true, true, true, false, false, false, false, false] rfl rfl (any_of HT_.out (by kernel_rfl)) (fun _ _ _ h => h) (Or.inr ⟨by rfl, rfl⟩) ?_ ?_
       rotate_left
       · simp only [Act.put, qA, qB, qC, i64_w, i32_w]
         rfl
       refine pure_ (i := 18) (N := some 90) (v := undef) (a' := ?_) #[true, true, true, true, true, true, true, true, true, true, true, true, true, true, true, true, true, true, true, false, false, false, false] rfl rfl (any_of HT_.out (by kernel_rfl)) (fun _ _ _ h => h) (Or.inr ⟨by rfl, rfl⟩) ?_ ?_
       rotate_left
       · simp only [Act.put, qA, qB, qC, i64_w, i32_w]
         rfl
       refine pure_ (i := 19) (N := some 91) (v := undef) (a' := ?_) #[true, true, true, true, true, true, true, true, true, true, true, true, true, true, true, true, true, true, true, true, false, false, false] rfl rfl (any_of HT_.out (by kernel_rfl)) (fun _ _ _ h => h) (Or.inr ⟨by rfl, rfl⟩) ?_ ?_
       rotate_left
       · simp only [Act.put, qA, qB, qC, i64_w, i32_w]
         rfl
       refine pure_ (i := 20) (N := some 92) (v := undef) (a' := ?_) #[true, true, true, true, true, true, true, true, true, true, true, true, true, true, true, true, true, true, true, true, true, false, false] rfl rfl (any_of HT_.out (by kernel_rfl)) (fun _ _ _ h => h) (Or.inr ⟨by rfl, rfl⟩) ?_ ?_
       rotate_left
       · simp only [Act.put, qA, qB, qC, i64_w, i32_w]
         rfl
       refine pure_ (i := 21) (N := some 93) (v := ?_) (a' := ?_) #[true, true, true, true, true, true, true, true, true, true, true, true, true, true, true, true, true, true, true, true, true, true, false] rfl rfl (any_of HT_.out (by kernel_rfl)) (fun _ _ _ h => h) (Or.inl ⟨by rfl, ?_⟩) ?_ ?_
       rotate_left
       · intro w'
         go_simp
         with_reducible rfl
       rotate_left
       · simp only [Act.put, qA, qB, qC, i64_w, i32_w]
         rfl
       refine pure_ (i := 22) (N := some 8) (v := ?_) (a' := ?_) #[true, true, true, true, true, true, true, true, true, true, true, true, true, true, true, true, true, true, true, true, true, true, true] rfl rfl (any_of HT_.out (by kernel_rfl)) (fun _ _ _ h => h) (Or.inl ⟨by rfl, ?_⟩) ?_ ?_
       rotate_left
       · intro w'
         go_simp
         with_reducible rfl
       rotate_left
       · simp only [Act.put, qA, qB, qC, i64_w, i32_w]
         rfl
       refine done_ (done_of HT_.out (by kernel_rfl)) ?_
       try go_wp2
       go_ret
       exact ⟨by first | rfl | (simp [errW_none, errW_some] <;> rfl) | (simp [*, errW_none, errW_some] <;> rfl), wV HB.out GE394.out⟩
     rw [if_pos c25] at H
     have c25b0 : (t397 == t399) = true := beq_iff_eq.mpr c25
     (try (have c25b8 : t397 = t399 := by first | exact beq_iff_eq.mp c25b0 | exact bne_eq_false_iff_eq.mp c25b0))
     have c25b1 : (t397 != t399) = false := bne_eq_false_iff_eq.mpr c25
     clear c25
     by_cases c26 : (t398 == t400) = true
     rotate_left
     · rw [if_neg c26] at H
       have c26b0 : (t398 == t400) = false := by simpa using c26
       (try (have c26b1 : decide (t398 = t400) = false := by simpa using c26))
       (try (have c26b2 : (t398 == t400) = false := by simpa using c26))
       (try (have c26b3 : ¬ (t398 = t400) := by simpa using c26))
       clear c26
       obtain rfl := Option.some.inj H
       have hcz40_0 : wr.cell? ⟨gb394, 0, none⟩ = some (.int .i64 a0_0) := (blk_cell BK394.out 0).trans rfl
       have hcz40_1 : wr.cell? ⟨gb394, 1, none⟩ = some (.slice A0_1 l0_1.length c0_1) := (blk_cell BK394.out 1).trans rfl
       have hcz40_2 : wr.cell? ⟨gb394, 2, none⟩ = some (.int .i64 a0_2) := (blk_cell BK394.out 2).trans rfl
       have hfz40_0 := blk_frozen BK394.out 0
       have hfz40_1 := blk_frozen BK394.out 1
       have hfz40_2 := blk_frozen BK394.out 2
       try go_wp2_with (first | ((with_reducible refine gate_callee (f := 25) rfl ?_); refine goesL_ (some 53) rfl rfl Try.func25 (by kernel_rfl) rfl #[.agg #[.int .i64 a0_0, .slice A0_1 l0_1.length c0_1, .int .i64 a0_2], .slice A2 l2.length c2, .int .i64 a3] rfl (by (try simp only [List.map_toArray, List.map_cons, List.map_nil]); first | done | rfl | (simp only [List.length_drop, List.length_take]; rfl)) ?_; (with_reducible refine (term_Match.calls k2 a0_0 _ _ l0_1 a0_2 _ _ l2 a3 t397 t398 _ ?side1 ?side2 ?side3 ?side4 A19.out).mono ?_); (case side1 => exact cU (Kd.C_below HR0_1.out HB.out)); (case side2 => exact HC0_1.out); (case side3 => exact cU (Kd.C_below HR2.out HB.out)); (case side4 => exact HC2.out); rintro e w41 ⟨rfl, hb⟩; refine ⟨_, rfl, ?_⟩; have n0_ := Aside0.mk (blk_below (g := gb394) (o := .cells #[.int .i64 a0_0, .slice A0_1 l0_1.length c0_1, .int .i64 a0_2] 43 (0, 0)) (bU BK394.out) hb); have n1_ := Aside0.mk (below_step (wV HB.out GE394.out) hb); clear BK394; clear HB; have BK394 := n0_; have HB := n1_; clear n0_ n1_; (try clear hb); (try clear hb2); (try clear hk); (try clear hi); have hcz42_0 : w41.cell? ⟨gb394, 0, none⟩ = some (.int .i64 a0_0) := (blk_cell BK394.out 0).trans rfl; have hcz42_1 : w41.cell? ⟨gb394, 1, none⟩ = some (.slice A0_1 l0_1.length c0_1) := (blk_cell BK394.out 1).trans rfl; have hcz42_2 : w41.cell? ⟨gb394, 2, none⟩ = some (.int .i64 a0_2) := (blk_cell BK394.out 2).trans rfl; have hfz42_0 := blk_frozen BK394.out 0; have hfz42_1 := blk_frozen BK394.out 1; have hfz42_2 := blk_frozen BK394.out 2) | ((with_reducible refine gate_callee (f := 26) rfl ?_); refine goesL_ (some 60) rfl rfl Try.func26 (by kernel_rfl) rfl #[.agg #[.int .i64 a0_0, .slice A0_1 l0_1.length c0_1, .int .i64 a0_2], .slice A2 l2.length c2, .int .i64 a3] rfl (by (try simp only [List.map_toArray, List.map_cons, List.map_nil]); first | done | rfl | (simp only [List.length_drop, List.length_take]; rfl)) ?_; (with_reducible refine (exegeteref14_Match.calls k2 a0_0 _ _ l0_1 a0_2 _ _ l2 a3 t399 t400 _ ?side1 ?side2 ?side3 ?side4 A20.out).mono ?_); (case side1 => exact cU (Kd.C_below HR0_1.out HB.out)); (case side2 => exact HC0_1.out); (case side3 => exact cU (Kd.C_below HR2.out HB.out)); (case side4 => exact HC2.out); rintro e w43 ⟨rfl, hb⟩; refine ⟨_, rfl, ?_⟩; have n0_ := Aside0.mk (blk_below (g := gb394) (o := .cells #[.int .i64 a0_0, .slice A0_1 l0_1.length c0_1, .int .i64 a0_2] 43 (0, 0)) (bU BK394.out) hb); have n1_ := Aside0.mk (below_step (wV HB.out GE394.out) hb); clear BK394; clear HB; have BK394 := n0_; have HB := n1_; clear n0_ n1_; (try clear hb); (try clear hb2); (try clear hk); (try clear hi)) | ((with_reducible refine gate_callee (f := 28) rfl ?_); refine goesL_ (some 66) rfl rfl Try.func28 (by kernel_rfl) rfl #[.slice A1 l1.length c1, .slice A2 l2.length c2, .int .i64 a3] rfl (by (try simp only [List.map_toArray, List.map_cons, List.map_nil]); first | done | rfl | (simp only [List.length_drop, List.length_take]; rfl)) ?_; (with_reducible refine (term_Texts.calls k2 _ _ l1 _ _ l2 a3 t401 _ ?side1 ?side2 ?side3 ?side4 A21.out).mono ?_); (case side1 => exact cU (Kd.C_below HR1.out HB.out)); (case side2 => exact HC1.out); (case side3 => exact cU (Kd.C_below HR2.out HB.out)); (case side4 => exact HC2.out); rintro e w44 ⟨v402, rfl, ho0, hb⟩; refine ⟨_, rfl, ?_⟩; have n0_ := Aside0.mk (Kd.R_lower ho0 (below_size (wV HB.out GE394.out))); have n1_ := Aside0.mk (blk_below (g := gb394) (o := .cells #[.int .i64 a0_0, .slice A0_1 l0_1.length c0_1, .int .i64 a0_2] 43 (0, 0)) (bU BK394.out) hb); have n2_ := Aside0.mk (below_step (wV HB.out GE394.out) hb); clear BK394; clear HB; have HO403 := n0_; have BK394 := n1_; have HB := n2_; clear n0_ n1_ n2_; (try clear hb); (try clear hb2); (try clear hk); (try clear hi); (try clear ho0)) | ((with_reducible refine gate_callee (f := 29) rfl ?_); refine goesL_ (some 70) rfl rfl Try.func29 (by kernel_rfl) rfl #[.slice A1 l1.length c1, .slice A2 l2.length c2, .int .i64 a3] rfl (by (try simp only [List.map_toArray, List.map_cons, List.map_nil]); first | done | rfl | (simp only [List.length_drop, List.length_take]; rfl)) ?_; (with_reducible refine (exegeteref14_Texts.calls k2 _ _ l1 _ _ l2 a3 t404 _ ?side1 ?side2 ?side3 ?side4 A22.out).mono ?_); (case side1 => exact cU (Kd.C_below HR1.out HB.out)); (case side2 => exact HC1.out); (case side3 => exact cU (Kd.C_below HR2.out HB.out)); (case side4 => exact HC2.out); rintro e w45 ⟨v405, rfl, ho0, hb⟩; refine ⟨_, rfl, ?_⟩; have n0_ := Aside0.mk (Kd.R_elder' (rU HO403.out) (Kd.R_base ho0) hb); have n1_ := Aside0.mk (Kd.R_lower (Kd.R_new' ho0 (Kd.R_lt (rU HO403.out))) (below_size (wV HB.out GE394.out))); have n2_ := Aside0.mk (blk_below (g := gb394) (o := .cells #[.int .i64 a0_0, .slice A0_1 l0_1.length c0_1, .int .i64 a0_2] 43 (0, 0)) (bU BK394.out) hb); have n3_ := Aside0.mk (below_step (wV HB.out GE394.out) hb); clear HO403; clear BK394; clear HB; have HO403 := n0_; have HO406 := n1_; have BK394 := n2_; have HB := n3_; clear n0_ n1_ n2_ n3_; (try clear hb); (try clear hb2); (try clear hk); (try clear hi); (try clear ho0); obtain ⟨Ao46, co46, eo46⟩ := Kd.R_slice HO403.out; subst eo46; obtain ⟨Ao47, co47, eo47⟩ := Kd.R_slice HO406.out; subst eo47) | ((with_reducible refine gate_callee (f := 27) rfl ?_); refine goesL_ (some 71) rfl rfl Try.func27 (by kernel_rfl) rfl #[.slice Ao46 t401.length co46, .slice Ao47 t404.length co47] rfl (by (try simp only [List.map_toArray, List.map_cons, List.map_nil]); first | done | rfl | (simp only [List.length_drop, List.length_take]; rfl)) ?_; (with_reducible refine (exegeteref04_Ints.calls k2 _ _ t401 _ _ t404 true _ ?side1 ?side2 ?side3 ?side4 A23.out).mono ?_); (case side1 => exact cU (Kd.R_reads' HO403.out).2.2); (case side2 => exact (Kd.R_reads' HO403.out).2.1); (case side3 => exact cU (Kd.R_reads' HO406.out).2.2); (case side4 => exact (Kd.R_reads' HO406.out).2.1); rintro e w' ⟨rfl, ⟨nd, rfl⟩⟩; refine ⟨_, rfl, ?_⟩))
       (try (rw [drewN_self w45]; generalize hq_ : World.drewN w45 _ = w45; have n0_ : Aside0 (Kd.R (Kd.int .i64) 3 w45 w.heap.size (fun k_ => some k_ ≠ (.slice Ao47 t404.length co47 : Value).ownBlock) (.slice Ao46 t401.length co46) t401) := ⟨by rw [← hq_]; exact (by (with_reducible repeat (first | apply Kd.R_alloc | apply Kd.R_drewN | apply Kd.R_drew)); exact Kd.R_mono HO403.out (fun _ hk => hk.2))⟩; have n1_ : Aside0 (Kd.R (Kd.int .i64) 3 w45 w.heap.size (fun k_ => some k_ ≠ (.slice Ao46 t401.length co46 : Value).ownBlock) (.slice Ao47 t404.length co47) t404) := ⟨by rw [← hq_]; exact (by (with_reducible repeat (first | apply Kd.R_alloc | apply Kd.R_drewN | apply Kd.R_drew)); exact Kd.R_mono HO406.out (fun _ hk => hk.2))⟩; have n2_ : Aside0 (w45.heap[gb394]? = some (.cells #[.int .i64 a0_0, .slice A0_1 l0_1.length c0_1, .int .i64 a0_2] 43 (0, 0))) := ⟨by rw [← hq_]; exact (bU BK394.out)⟩; have n3_ : Aside0 (Below w.heap.size w w45) := ⟨by rw [← hq_]; exact (wV HB.out GE394.out)⟩; clear HO403 HO406 BK394 HB hq_; have HO403 := n0_; have HO406 := n1_; have BK394 := n2_; have HB := n3_; clear n0_ n1_ n2_ n3_))
       have n0_ := Aside0.mk (Kd.R_drew HO403.out)
       have n1_ := Aside0.mk (Kd.R_drew HO406.out)
       have n2_ := Aside0.mk (blk_drew BK394.out)
       have n3_ := Aside0.mk (below_drew1 HB.out)
       clear HO403 HO406 BK394 HB; have HO403 := n0_; have HO406 := n1_; have BK394 := n2_; have HB := n3_; clear n0_ n1_ n2_ n3_
       refine start_ (n := 23) (S := fun w' => True) (ds := []) #[false, false, false, false, false, false, false, false, false, false, false, false, false, false, false, false, false, false, false, false, false, false, false] (by kernel_rfl) rfl rfl trivial (fun hHeld => ?_); refine with_tabW exegetelaw14_TermTells.tab12 exegetelaw14_TermTells.bits12 (fun HT_ HW_ => ?_)
       generalize w45.drew = w48 at HO403 HO406 BK394 HB hHeld ⊢
       refine pure_ (i := 0) (N := some 72) (v := ?_) (a' := ?_) #[true, false, false, false, false, false, false, false, false, false, false, false, false, false, false, false, false, false, false, false, false, false, false] rfl rfl (any_of HT_.out (by kernel_rfl)) (fun _ _ _ h => h) (Or.inl ⟨by rfl, ?_⟩) ?_ ?_
       rotate_left
       · intro w'
         go_simp
         with_reducible rfl
       rotate_left
       · simp only [Act.put, qA, qB, qC, i64_w, i32_w]
         rfl
       refine pure_ (i := 1) (N := some 73) (v := ?_) (a' := ?_) #[true, true, false, false, false, false, false, false, false, false, false, false, false, false, false, false, false, false, false, false, false, false, false] rfl rfl (any_of HT_.out (by kernel_rfl)) (fun _ _ _ h => h) (Or.inl ⟨by rfl, ?_⟩) ?_ ?_
       rotate_left
       · intro w'
         go_simp
         with_reducible rfl
       rotate_left
       · simp only [Act.put, qA, qB, qC, i64_w, i32_w]
         rfl
       refine pure_ (i := 2) (N := some 74) (v := ?_) (a' := ?_) #[true, true, true, false, false, false, false, false, false, false, false, false, false, false, false, false, false, false, false, false, false, false, false] rfl rfl (any_of HT_.out (by kernel_rfl)) (fun _ _ _ h => h) (Or.inl ⟨by rfl, ?_⟩) ?_ ?_
       rotate_left
       · intro w'
         go_simp
         with_reducible rfl
       rotate_left
       · simp only [Act.put, qA, qB, qC, i64_w, i32_w]
         rfl
       refine pure_ (i := 3) (N := some 75) (v := ?_) (a' := ?_) #[true, true, true, true, false, false, false, false, false, false, false, false, false, false, false, false, false, false, false, false, false, false, false] rfl rfl (any_of HT_.out (by kernel_rfl)) (fun _ _ _ h => h) (Or.inl ⟨by rfl, ?_⟩) ?_ ?_
       rotate_left
       · intro w'
         go_simp
         with_reducible rfl
       rotate_left
       · simp only [Act.put, qA, qB, qC, i64_w, i32_w]
         rfl
       refine pure_ (i := 4) (N := some 76) (v := ?_) (a' := ?_) #[true, true, true, true, true, false, false, false, false, false, false, false, false, false, false, false, false, false, false, false, false, false, false] rfl rfl (any_of HT_.out (by kernel_rfl)) (fun _ _ _ h => h) (Or.inl ⟨by rfl, ?_⟩) ?_ ?_
       rotate_left
       · intro w'
         go_simp
         with_reducible rfl
       rotate_left
       · simp only [Act.put, qA, qB, qC, i64_w, i32_w]
         rfl
       refine pure_ (i := 5) (N := some 77) (v := ?_) (a' := ?_) #[true, true, true, true, true, true, false, false, false, false, false, false, false, false, false, false, false, false, false, false, false, false, false] rfl rfl (any_of HT_.out (by kernel_rfl)) (fun _ _ _ h => h) (Or.inl ⟨by rfl, ?_⟩) ?_ ?_
       rotate_left
       · intro w'
         go_simp
         with_reducible rfl
       rotate_left
       · simp only [Act.put, qA, qB, qC, i64_w, i32_w]
         rfl
       refine pure_ (i := 6) (N := some 78) (v := ?_) (a' := ?_) #[true, true, true, true, true, true, true, false, false, false, false, false, false, false, false, false, false, false, false, false, false, false, false] rfl rfl (any_of HT_.out (by kernel_rfl)) (fun _ _ _ h => h) (Or.inl ⟨by rfl, ?_⟩) ?_ ?_
       rotate_left
       · intro w'
         go_simp
         with_reducible rfl
       rotate_left
       · simp only [Act.put, qA, qB, qC, i64_w, i32_w]
         rfl
       refine pure_ (i := 7) (N := some 79) (v := ?_) (a' := ?_) #[true, true, true, true, true, true, true, true, false, false, false, false, false, false, false, false, false, false, false, false, false, false, false] rfl rfl (any_of HT_.out (by kernel_rfl)) (fun _ _ _ h => h) (Or.inl ⟨by rfl, ?_⟩) ?_ ?_
       rotate_left
       · intro w'
         go_simp
         with_reducible rfl
       rotate_left
       · simp only [Act.put, qA, qB, qC, i64_w, i32_w]
         rfl
       refine pure_ (i := 8) (N := some 80) (v := ?_) (a' := ?_) #[true, true, true, true, true, true, true, true, true, false, false, false, false, false, false, false, false, false, false, false, false, false, false] rfl rfl (any_of HT_.out (by kernel_rfl)) (fun _ _ _ h => h) (Or.inl ⟨by rfl, ?_⟩) ?_ ?_
       rotate_left
       · intro w'
         go_simp
         with_reducible rfl
       rotate_left
       · simp only [Act.put, qA, qB, qC, i64_w, i32_w]
         rfl
       refine pure_ (i := 9) (N := some 81) (v := ?_) (a' := ?_) #[true, true, true, true, true, true, true, true, true, true, false, false, false, false, false, false, false, false, false, false, false, false, false] rfl rfl (any_of HT_.out (by kernel_rfl)) (fun _ _ _ h => h) (Or.inl ⟨by rfl, ?_⟩) ?_ ?_
       rotate_left
       · intro w'
         go_simp
         with_reducible rfl
       rotate_left
       · simp only [Act.put, qA, qB, qC, i64_w, i32_w]
         rfl
       refine pure_ (i := 10) (N := some 82) (v := ?_) (a' := ?_) #[true, true, true, true, true, true, true, true, true, true, true, false, false, false, false, false, false, false, false, false, false, false, false] rfl rfl (any_of HT_.out (by kernel_rfl)) (fun _ _ _ h => h) (Or.inl ⟨by rfl, ?_⟩) ?_ ?_
       rotate_left
       · intro w'
         go_simp
         with_reducible rfl
       rotate_left
       · simp only [Act.put, qA, qB, qC, i64_w, i32_w]
         rfl
       refine pure_ (i := 11) (N := some 83) (v := ?_) (a' := ?_) #[true, true, true, true, true, true, true, true, true, true, true, true, false, false, false, false, false, false, false, false, false, false, false] rfl rfl (any_of HT_.out (by kernel_rfl)) (fun _ _ _ h => h) (Or.inl ⟨by rfl, ?_⟩) ?_ ?_
       rotate_left
       · intro w'
         go_simp
         with_reducible rfl
       rotate_left
       · simp only [Act.put, qA, qB, qC, i64_w, i32_w]
         rfl
       refine pure_ (i := 12) (N := some 84) (v := undef) (a' := ?_) #[true, true, true, true, true, true, true, true, true, true, true, true, true, false, false, false, false, false, false, false, false, false, false] rfl rfl (any_of HT_.out (by kernel_rfl)) (fun _ _ _ h => h) (Or.inr ⟨by rfl, rfl⟩) ?_ ?_
       rotate_left
       · simp only [Act.put, qA, qB, qC, i64_w, i32_w]
         rfl
       refine pure_ (i := 13) (N := some 85) (v := undef) (a' := ?_) #[true, true, true, true, true, true, true, true, true, true, true, true, true, true, false, false, false, false, false, false, false, false, false] rfl rfl (any_of HT_.out (by kernel_rfl)) (fun _ _ _ h => h) (Or.inr ⟨by rfl, rfl⟩) ?_ ?_
       rotate_left
       · simp only [Act.put, qA, qB, qC, i64_w, i32_w]
         rfl
       refine pure_ (i := 14) (N := some 86) (v := undef) (a' := ?_) #[true, true, true, true, true, true, true, true, true, true, true, true, true, true, true, false, false, false, false, false, false, false, false] rfl rfl (any_of HT_.out (by kernel_rfl)) (fun _ _ _ h => h) (Or.inr ⟨by rfl, rfl⟩) ?_ ?_
       rotate_left
       · simp only [Act.put, qA, qB, qC, i64_w, i32_w]
         rfl
       refine pure_ (i := 15) (N := some 87) (v := undef) (a' := ?_) #[true, true, true, true, true, true, true, true, true, true, true, true, true, true, true, true, false, false, false, false, false, false, false] rfl rfl (any_of HT_.out (by kernel_rfl)) (fun _ _ _ h => h) (Or.inr ⟨by rfl, rfl⟩) ?_ ?_
       rotate_left
       · simp only [Act.put, qA, qB, qC, i64_w, i32_w]
         rfl
       refine pure_ (i := 16) (N := some 88) (v := undef) (a' := ?_) #[true, true, true, true, true, true, true, true, true, true, true, true, true, true, true, true, true, false, false, false, false, false, false] rfl rfl (any_of HT_.out (by kernel_rfl)) (fun _ _ _ h => h) (Or.inr ⟨by rfl, rfl⟩) ?_ ?_
       rotate_left
       · simp only [Act.put, qA, qB, qC, i64_w, i32_w]
         rfl
       refine pure_ (i := 17) (N := some 89) (v := undef) (a' := ?_) #[true, true, true, true, true, true, true, true, true, true, true, true, true, true, true, true, true, true, false, false, false, false, false] rfl rfl (any_of HT_.out (by kernel_rfl)) (fun _ _ _ h => h) (Or.inr ⟨by rfl, rfl⟩) ?_ ?_
       rotate_left
       · simp only [Act.put, qA, qB, qC, i64_w, i32_w]
         rfl
       refine pure_ (i := 18) (N := some 90) (v := undef) (a' := ?_) #[true, true, true, true, true, true, true, true, true, true, true, true, true, true, true, true, true, true, true, false, false, false, false] rfl rfl (any_of HT_.out (by kernel_rfl)) (fun _ _ _ h => h) (Or.inr ⟨by rfl, rfl⟩) ?_ ?_
       rotate_left
       · simp only [Act.put, qA, qB, qC, i64_w, i32_w]
         rfl
       refine pure_ (i := 19) (N := some 91) (v := undef) (a' := ?_) #[true, true, true, true, true, true, true, true, true, true, true, true, true, true, true, true, true, true, true, true, false, false, false] rfl rfl (any_of HT_.out (by kernel_rfl)) (fun _ _ _ h => h) (Or.inr ⟨by rfl, rfl⟩) ?_ ?_
       rotate_left
       · simp only [Act.put, qA, qB, qC, i64_w, i32_w]
         rfl
       refine pure_ (i := 20) (N := some 92) (v := undef) (a' := ?_) #[true, true, true, true, true, true, true, true, true, true, true, true, true, true, true, true, true, true, true, true, true, false, false] rfl rfl (any_of HT_.out (by kernel_rfl)) (fun _ _ _ h => h) (Or.inr ⟨by rfl, rfl⟩) ?_ ?_
       rotate_left
       · simp only [Act.put, qA, qB, qC, i64_w, i32_w]
         rfl
       refine pure_ (i := 21) (N := some 93) (v := ?_) (a' := ?_) #[true, true, true, true, true, true, true, true, true, true, true, true, true, true, true, true, true, true, true, true, true, true, false] rfl rfl (any_of HT_.out (by kernel_rfl)) (fun _ _ _ h => h) (Or.inl ⟨by rfl, ?_⟩) ?_ ?_
       rotate_left
       · intro w'
         go_simp
         with_reducible rfl
       rotate_left
       · simp only [Act.put, qA, qB, qC, i64_w, i32_w]
         rfl
       refine pure_ (i := 22) (N := some 8) (v := ?_) (a' := ?_) #[true, true, true, true, true, true, true, true, true, true, true, true, true, true, true, true, true, true, true, true, true, true, true] rfl rfl (any_of HT_.out (by kernel_rfl)) (fun _ _ _ h => h) (Or.inl ⟨by rfl, ?_⟩) ?_ ?_
       rotate_left
       · intro w'
         go_simp
         with_reducible rfl
       rotate_left
       · simp only [Act.put, qA, qB, qC, i64_w, i32_w]
         rfl
       refine done_ (done_of HT_.out (by kernel_rfl)) ?_
       try go_wp2
       go_ret
       exact ⟨by first | rfl | (simp [errW_none, errW_some] <;> rfl) | (simp [*, errW_none, errW_some] <;> rfl), wV HB.out GE394.out⟩
     rw [if_pos c26] at H
     have c26b0 : (t398 == t400) = true := c26
     (try (have c26b8 : t398 = t400 := by first | exact beq_iff_eq.mp c26b0 | exact bne_eq_false_iff_eq.mp c26b0))
     (try (have c26b1 : decide (t398 = t400) = true := by simpa using c26))
     (try (have c26b2 : (t398 == t400) = true := by simpa using c26))
     clear c26
     replace H := Option.bind_eq_some_iff.mp H
     obtain ⟨t408, A270, H⟩ := H
     replace H : ((exegeteref14_Part.f k2 a0_0 l0_1 a0_2 l2 a3).bind fun t409 => (some (t408 == t409))) = some r := H
     have A27 := Aside0.mk A270
     clear A270
     replace H := Option.bind_eq_some_iff.mp H
     obtain ⟨t409, A280, H⟩ := H
     replace H : (some (t408 == t409)) = some r := H
     have A28 := Aside0.mk A280
     clear A280
     obtain rfl := Option.some.inj H
     have hcz29_0 : wr.cell? ⟨gb394, 0, none⟩ = some (.int .i64 a0_0) := (blk_cell BK394.out 0).trans rfl
     have hcz29_1 : wr.cell? ⟨gb394, 1, none⟩ = some (.slice A0_1 l0_1.length c0_1) := (blk_cell BK394.out 1).trans rfl
     have hcz29_2 : wr.cell? ⟨gb394, 2, none⟩ = some (.int .i64 a0_2) := (blk_cell BK394.out 2).trans rfl
     have hfz29_0 := blk_frozen BK394.out 0
     have hfz29_1 := blk_frozen BK394.out 1
     have hfz29_2 := blk_frozen BK394.out 2
     try go_wp2_with (first | ((with_reducible refine gate_callee (f := 25) rfl ?_); refine goesL_ (some 53) rfl rfl Try.func25 (by kernel_rfl) rfl #[.agg #[.int .i64 a0_0, .slice A0_1 l0_1.length c0_1, .int .i64 a0_2], .slice A2 l2.length c2, .int .i64 a3] rfl (by (try simp only [List.map_toArray, List.map_cons, List.map_nil]); first | done | rfl | (simp only [List.length_drop, List.length_take]; rfl)) ?_; (with_reducible refine (term_Match.calls k2 a0_0 _ _ l0_1 a0_2 _ _ l2 a3 t397 t398 _ ?side1 ?side2 ?side3 ?side4 A19.out).mono ?_); (case side1 => exact cU (Kd.C_below HR0_1.out HB.out)); (case side2 => exact HC0_1.out); (case side3 => exact cU (Kd.C_below HR2.out HB.out)); (case side4 => exact HC2.out); rintro e w30 ⟨rfl, hb⟩; refine ⟨_, rfl, ?_⟩; have n0_ := Aside0.mk (blk_below (g := gb394) (o := .cells #[.int .i64 a0_0, .slice A0_1 l0_1.length c0_1, .int .i64 a0_2] 43 (0, 0)) (bU BK394.out) hb); have n1_ := Aside0.mk (below_step (wV HB.out GE394.out) hb); clear BK394; clear HB; have BK394 := n0_; have HB := n1_; clear n0_ n1_; (try clear hb); (try clear hb2); (try clear hk); (try clear hi); have hcz31_0 : w30.cell? ⟨gb394, 0, none⟩ = some (.int .i64 a0_0) := (blk_cell BK394.out 0).trans rfl; have hcz31_1 : w30.cell? ⟨gb394, 1, none⟩ = some (.slice A0_1 l0_1.length c0_1) := (blk_cell BK394.out 1).trans rfl; have hcz31_2 : w30.cell? ⟨gb394, 2, none⟩ = some (.int .i64 a0_2) := (blk_cell BK394.out 2).trans rfl; have hfz31_0 := blk_frozen BK394.out 0; have hfz31_1 := blk_frozen BK394.out 1; have hfz31_2 := blk_frozen BK394.out 2) | ((with_reducible refine gate_callee (f := 26) rfl ?_); refine goesL_ (some 60) rfl rfl Try.func26 (by kernel_rfl) rfl #[.agg #[.int .i64 a0_0, .slice A0_1 l0_1.length c0_1, .int .i64 a0_2], .slice A2 l2.length c2, .int .i64 a3] rfl (by (try simp only [List.map_toArray, List.map_cons, List.map_nil]); first | done | rfl | (simp only [List.length_drop, List.length_take]; rfl)) ?_; (with_reducible refine (exegeteref14_Match.calls k2 a0_0 _ _ l0_1 a0_2 _ _ l2 a3 t399 t400 _ ?side1 ?side2 ?side3 ?side4 A20.out).mono ?_); (case side1 => exact cU (Kd.C_below HR0_1.out HB.out)); (case side2 => exact HC0_1.out); (case side3 => exact cU (Kd.C_below HR2.out HB.out)); (case side4 => exact HC2.out); rintro e w32 ⟨rfl, hb⟩; refine ⟨_, rfl, ?_⟩; have n0_ := Aside0.mk (blk_below (g := gb394) (o := .cells #[.int .i64 a0_0, .slice A0_1 l0_1.length c0_1, .int .i64 a0_2] 43 (0, 0)) (bU BK394.out) hb); have n1_ := Aside0.mk (below_step (wV HB.out GE394.out) hb); clear BK394; clear HB; have BK394 := n0_; have HB := n1_; clear n0_ n1_; (try clear hb); (try clear hb2); (try clear hk); (try clear hi)) | ((with_reducible refine gate_callee (f := 28) rfl ?_); refine goesL_ (some 66) rfl rfl Try.func28 (by kernel_rfl) rfl #[.slice A1 l1.length c1, .slice A2 l2.length c2, .int .i64 a3] rfl (by (try simp only [List.map_toArray, List.map_cons, List.map_nil]); first | done | rfl | (simp only [List.length_drop, List.length_take]; rfl)) ?_; (with_reducible refine (term_Texts.calls k2 _ _ l1 _ _ l2 a3 t401 _ ?side1 ?side2 ?side3 ?side4 A21.out).mono ?_); (case side1 => exact cU (Kd.C_below HR1.out HB.out)); (case side2 => exact HC1.out); (case side3 => exact cU (Kd.C_below HR2.out HB.out)); (case side4 => exact HC2.out); rintro e w33 ⟨v402, rfl, ho0, hb⟩; refine ⟨_, rfl, ?_⟩; have n0_ := Aside0.mk (Kd.R_lower ho0 (below_size (wV HB.out GE394.out))); have n1_ := Aside0.mk (blk_below (g := gb394) (o := .cells #[.int .i64 a0_0, .slice A0_1 l0_1.length c0_1, .int .i64 a0_2] 43 (0, 0)) (bU BK394.out) hb); have n2_ := Aside0.mk (below_step (wV HB.out GE394.out) hb); clear BK394; clear HB; have HO403 := n0_; have BK394 := n1_; have HB := n2_; clear n0_ n1_ n2_; (try clear hb); (try clear hb2); (try clear hk); (try clear hi); (try clear ho0)) | ((with_reducible refine gate_callee (f := 29) rfl ?_); refine goesL_ (some 70) rfl rfl Try.func29 (by kernel_rfl) rfl #[.slice A1 l1.length c1, .slice A2 l2.length c2, .int .i64 a3] rfl (by (try simp only [List.map_toArray, List.map_cons, List.map_nil]); first | done | rfl | (simp only [List.length_drop, List.length_take]; rfl)) ?_; (with_reducible refine (exegeteref14_Texts.calls k2 _ _ l1 _ _ l2 a3 t404 _ ?side1 ?side2 ?side3 ?side4 A22.out).mono ?_); (case side1 => exact cU (Kd.C_below HR1.out HB.out)); (case side2 => exact HC1.out); (case side3 => exact cU (Kd.C_below HR2.out HB.out)); (case side4 => exact HC2.out); rintro e w34 ⟨v405, rfl, ho0, hb⟩; refine ⟨_, rfl, ?_⟩; have n0_ := Aside0.mk (Kd.R_elder' (rU HO403.out) (Kd.R_base ho0) hb); have n1_ := Aside0.mk (Kd.R_lower (Kd.R_new' ho0 (Kd.R_lt (rU HO403.out))) (below_size (wV HB.out GE394.out))); have n2_ := Aside0.mk (blk_below (g := gb394) (o := .cells #[.int .i64 a0_0, .slice A0_1 l0_1.length c0_1, .int .i64 a0_2] 43 (0, 0)) (bU BK394.out) hb); have n3_ := Aside0.mk (below_step (wV HB.out GE394.out) hb); clear HO403; clear BK394; clear HB; have HO403 := n0_; have HO406 := n1_; have BK394 := n2_; have HB := n3_; clear n0_ n1_ n2_ n3_; (try clear hb); (try clear hb2); (try clear hk); (try clear hi); (try clear ho0); obtain ⟨Ao35, co35, eo35⟩ := Kd.R_slice HO403.out; subst eo35; obtain ⟨Ao36, co36, eo36⟩ := Kd.R_slice HO406.out; subst eo36) | ((with_reducible refine gate_callee (f := 27) rfl ?_); refine goesL_ (some 71) rfl rfl Try.func27 (by kernel_rfl) rfl #[.slice Ao35 t401.length co35, .slice Ao36 t404.length co36] rfl (by (try simp only [List.map_toArray, List.map_cons, List.map_nil]); first | done | rfl | (simp only [List.length_drop, List.length_take]; rfl)) ?_; (with_reducible refine (exegeteref04_Ints.calls k2 _ _ t401 _ _ t404 true _ ?side1 ?side2 ?side3 ?side4 A23.out).mono ?_); (case side1 => exact cU (Kd.R_reads' HO403.out).2.2); (case side2 => exact (Kd.R_reads' HO403.out).2.1); (case side3 => exact cU (Kd.R_reads' HO406.out).2.2); (case side4 => exact (Kd.R_reads' HO406.out).2.1); rintro e w' ⟨rfl, ⟨nd, rfl⟩⟩; refine ⟨_, rfl, ?_⟩))
     (try (rw [drewN_self w34]; generalize hq_ : World.drewN w34 _ = w34; have n0_ : Aside0 (Kd.R (Kd.int .i64) 3 w34 w.heap.size (fun k_ => some k_ ≠ (.slice Ao36 t404.length co36 : Value).ownBlock) (.slice Ao35 t401.length co35) t401) := ⟨by rw [← hq_]; exact (by (with_reducible repeat (first | apply Kd.R_alloc | apply Kd.R_drewN | apply Kd.R_drew)); exact Kd.R_mono HO403.out (fun _ hk => hk.2))⟩; have n1_ : Aside0 (Kd.R (Kd.int .i64) 3 w34 w.heap.size (fun k_ => some k_ ≠ (.slice Ao35 t401.length co35 : Value).ownBlock) (.slice Ao36 t404.length co36) t404) := ⟨by rw [← hq_]; exact (by (with_reducible repeat (first | apply Kd.R_alloc | apply Kd.R_drewN | apply Kd.R_drew)); exact Kd.R_mono HO406.out (fun _ hk => hk.2))⟩; have n2_ : Aside0 (w34.heap[gb394]? = some (.cells #[.int .i64 a0_0, .slice A0_1 l0_1.length c0_1, .int .i64 a0_2] 43 (0, 0))) := ⟨by rw [← hq_]; exact (bU BK394.out)⟩; have n3_ : Aside0 (Below w.heap.size w w34) := ⟨by rw [← hq_]; exact (wV HB.out GE394.out)⟩; clear HO403 HO406 BK394 HB hq_; have HO403 := n0_; have HO406 := n1_; have BK394 := n2_; have HB := n3_; clear n0_ n1_ n2_ n3_))
     have n0_ := Aside0.mk (Kd.R_drew HO403.out)
     have n1_ := Aside0.mk (Kd.R_drew HO406.out)
     have n2_ := Aside0.mk (blk_drew BK394.out)
     have n3_ := Aside0.mk (below_drew1 HB.out)
     clear HO403 HO406 BK394 HB; have HO403 := n0_; have HO406 := n1_; have BK394 := n2_; have HB := n3_; clear n0_ n1_ n2_ n3_
     refine start_ (n := 23) (S := fun w' => w'.cell? ⟨gb394, 0, none⟩ = some (.int .i64 a0_0) ∧ w'.cell? ⟨gb394, 1, none⟩ = some (.slice A0_1 l0_1.length c0_1) ∧ w'.cell? ⟨gb394, 2, none⟩ = some (.int .i64 a0_2)) (ds := []) #[false, false, false, false, false, false, false, false, false, false, false, false, false, false, false, false, false, false, false, false, false, false, false] (by kernel_rfl) rfl rfl ⟨(blk_cell BK394.out 0).trans rfl, (blk_cell BK394.out 1).trans rfl, (blk_cell BK394.out 2).trans rfl⟩ (fun hHeld => ?_); refine with_tabW exegetelaw14_TermTells.tab12 exegetelaw14_TermTells.bits12 (fun HT_ HW_ => ?_)
     generalize w34.drew = w37 at HO403 HO406 BK394 HB hHeld ⊢
     refine pure_ (i := 0) (N := some 72) (v := ?_) (a' := ?_) #[true, false, false, false, false, false, false, false, false, false, false, false, false, false, false, false, false, false, false, false, false, false, false] rfl rfl (any_of HT_.out (by kernel_rfl)) (fun _ _ _ h => h) (Or.inl ⟨by rfl, ?_⟩) ?_ ?_
     rotate_left
     · intro w'
       go_simp
       with_reducible rfl
     rotate_left
     · simp only [Act.put, qA, qB, qC, i64_w, i32_w]
       rfl
     refine pure_ (i := 1) (N := some 73) (v := ?_) (a' := ?_) #[true, true, false, false, false, false, false, false, false, false, false, false, false, false, false, false, false, false, false, false, false, false, false] rfl rfl (any_of HT_.out (by kernel_rfl)) (fun _ _ _ h => h) (Or.inl ⟨by rfl, ?_⟩) ?_ ?_
     rotate_left
     · intro w'
       go_simp
       with_reducible rfl
     rotate_left
     · simp only [Act.put, qA, qB, qC, i64_w, i32_w]
       rfl
     refine pure_ (i := 2) (N := some 74) (v := ?_) (a' := ?_) #[true, true, true, false, false, false, false, false, false, false, false, false, false, false, false, false, false, false, false, false, false, false, false] rfl rfl (any_of HT_.out (by kernel_rfl)) (fun _ _ _ h => h) (Or.inl ⟨by rfl, ?_⟩) ?_ ?_
     rotate_left
     · intro w'
       go_simp
       with_reducible rfl
     rotate_left
     · simp only [Act.put, qA, qB, qC, i64_w, i32_w]
       rfl
     refine pure_ (i := 3) (N := some 75) (v := ?_) (a' := ?_) #[true, true, true, true, false, false, false, false, false, false, false, false, false, false, false, false, false, false, false, false, false, false, false] rfl rfl (any_of HT_.out (by kernel_rfl)) (fun _ _ _ h => h) (Or.inl ⟨by rfl, ?_⟩) ?_ ?_
     rotate_left
     · intro w'
       go_simp
       with_reducible rfl
     rotate_left
     · simp only [Act.put, qA, qB, qC, i64_w, i32_w]
       rfl
     refine pure_ (i := 4) (N := some 76) (v := ?_) (a' := ?_) #[true, true, true, true, true, false, false, false, false, false, false, false, false, false, false, false, false, false, false, false, false, false, false] rfl rfl (any_of HT_.out (by kernel_rfl)) (fun _ _ _ h => h) (Or.inl ⟨by rfl, ?_⟩) ?_ ?_
     rotate_left
     · intro w'
       go_simp
       with_reducible rfl
     rotate_left
     · simp only [Act.put, qA, qB, qC, i64_w, i32_w]
       rfl
     refine pure_ (i := 5) (N := some 77) (v := ?_) (a' := ?_) #[true, true, true, true, true, true, false, false, false, false, false, false, false, false, false, false, false, false, false, false, false, false, false] rfl rfl (any_of HT_.out (by kernel_rfl)) (fun _ _ _ h => h) (Or.inl ⟨by rfl, ?_⟩) ?_ ?_
     rotate_left
     · intro w'
       go_simp
       with_reducible rfl
     rotate_left
     · simp only [Act.put, qA, qB, qC, i64_w, i32_w]
       rfl
     refine pure_ (i := 6) (N := some 78) (v := ?_) (a' := ?_) #[true, true, true, true, true, true, true, false, false, false, false, false, false, false, false, false, false, false, false, false, false, false, false] rfl rfl (any_of HT_.out (by kernel_rfl)) (fun _ _ _ h => h) (Or.inl ⟨by rfl, ?_⟩) ?_ ?_
     rotate_left
     · intro w'
       go_simp
       with_reducible rfl
     rotate_left
     · simp only [Act.put, qA, qB, qC, i64_w, i32_w]
       rfl
     refine pure_ (i := 7) (N := some 79) (v := ?_) (a' := ?_) #[true, true, true, true, true, true, true, true, false, false, false, false, false, false, false, false, false, false, false, false, false, false, false] rfl rfl (any_of HT_.out (by kernel_rfl)) (fun _ _ _ h => h) (Or.inl ⟨by rfl, ?_⟩) ?_ ?_
     rotate_left
     · intro w'
       go_simp
       with_reducible rfl
     rotate_left
     · simp only [Act.put, qA, qB, qC, i64_w, i32_w]
       rfl
     refine pure_ (i := 8) (N := some 80) (v := ?_) (a' := ?_) #[true, true, true, true, true, true, true, true, true, false, false, false, false, false, false, false, false, false, false, false, false, false, false] rfl rfl (any_of HT_.out (by kernel_rfl)) (fun _ _ _ h => h) (Or.inl ⟨by rfl, ?_⟩) ?_ ?_
     rotate_left
     · intro w'
       go_simp
       with_reducible rfl
     rotate_left
     · simp only [Act.put, qA, qB, qC, i64_w, i32_w]
       rfl
     refine pure_ (i := 9) (N := some 81) (v := ?_) (a' := ?_) #[true, true, true, true, true, true, true, true, true, true, false, false, false, false, false, false, false, false, false, false, false, false, false] rfl rfl (any_of HT_.out (by kernel_rfl)) (fun _ _ _ h => h) (Or.inl ⟨by rfl, ?_⟩) ?_ ?_
     rotate_left
     · intro w'
       go_simp
       with_reducible rfl
     rotate_left
     · simp only [Act.put, qA, qB, qC, i64_w, i32_w]
       rfl
     refine pure_ (i := 10) (N := some 82) (v := ?_) (a' := ?_) #[true, true, true, true, true, true, true, true, true, true, true, false, false, false, false, false, false, false, false, false, false, false, false] rfl rfl (any_of HT_.out (by kernel_rfl)) (fun _ _ _ h => h) (Or.inl ⟨by rfl, ?_⟩) ?_ ?_
     rotate_left
     · intro w'
       go_simp
       with_reducible rfl
     rotate_left
     · simp only [Act.put, qA, qB, qC, i64_w, i32_w]
       rfl
     refine pure_ (i := 11) (N := some 83) (v := ?_) (a' := ?_) #[true, true, true, true, true, true, true, true, true, true, true, true, false, false, false, false, false, false, false, false, false, false, false] rfl rfl (any_of HT_.out (by kernel_rfl)) (fun _ _ _ h => h) (Or.inl ⟨by rfl, ?_⟩) ?_ ?_
     rotate_left
     · intro w'
       go_simp
       with_reducible rfl
     rotate_left
     · simp only [Act.put, qA, qB, qC, i64_w, i32_w]
       rfl
     refine pure_ (i := 13) (N := some 85) (v := ?_) (a' := ?_) #[true, true, true, true, true, true, true, true, true, true, true, true, false, true, false, false, false, false, false, false, false, false, false] rfl rfl (any_of HT_.out (by kernel_rfl)) (fun _ _ _ h => h) (Or.inl ⟨by rfl, ?_⟩) ?_ ?_
     rotate_left
     · intro w'
       go_simp
       with_reducible rfl
     rotate_left
     · simp only [Act.put, qA, qB, qC, i64_w, i32_w]
       rfl
     refine pure_ (i := 14) (N := some 86) (v := ?_) (a' := ?_) #[true, true, true, true, true, true, true, true, true, true, true, true, false, true, true, false, false, false, false, false, false, false, false] rfl rfl (any_of HT_.out (by kernel_rfl)) (fun _ _ _ h => h) (Or.inl ⟨by rfl, ?_⟩) ?_ ?_
     rotate_left
     · intro w'
       go_simp
       with_reducible rfl
     rotate_left
     · simp only [Act.put, qA, qB, qC, i64_w, i32_w]
       rfl
     refine pure_ (i := 17) (N := some 89) (v := ?_) (a' := ?_) #[true, true, true, true, true, true, true, true, true, true, true, true, false, true, true, false, false, true, false, false, false, false, false] rfl rfl (any_of HT_.out (by kernel_rfl)) (fun _ _ _ h => h) (Or.inl ⟨by rfl, ?_⟩) ?_ ?_
     rotate_left
     · intro w'
       go_simp
       with_reducible rfl
     rotate_left
     · simp only [Act.put, qA, qB, qC, i64_w, i32_w]
       rfl
     refine pure_ (i := 18) (N := some 90) (v := ?_) (a' := ?_) #[true, true, true, true, true, true, true, true, true, true, true, true, false, true, true, false, false, true, true, false, false, false, false] rfl rfl (any_of HT_.out (by kernel_rfl)) (fun _ _ _ h => h) (Or.inl ⟨by rfl, ?_⟩) ?_ ?_
     rotate_left
     · intro w'
       go_simp
       with_reducible rfl
     rotate_left
     · simp only [Act.put, qA, qB, qC, i64_w, i32_w]
       rfl
     refine take_ (i := 12) (N := some 84) (v := ?_) (a' := ?_) #[true, true, true, true, true, true, true, true, true, true, true, true, true, true, true, false, false, true, true, false, false, false, false] rfl rfl (take_ofW HT_.out HW_.out (by kernel_rfl)) (fun _ _ _ h => h) (Or.inl ⟨by rfl, ?_⟩) hHeld ?_ ?_
     rotate_left
     · rintro w' ⟨s0, s1, s2⟩
       go_simp
       with_reducible rfl
     rotate_left
     · simp only [Act.put, qA, qB, qC, i64_w, i32_w]
       rfl
     refine take_ (i := 16) (N := some 88) (v := ?_) (a' := ?_) #[true, true, true, true, true, true, true, true, true, true, true, true, true, true, true, false, true, true, true, false, false, false, false] rfl rfl (take_ofW HT_.out HW_.out (by kernel_rfl)) (fun _ _ _ h => h) (Or.inl ⟨by rfl, ?_⟩) hHeld ?_ ?_
     rotate_left
     · rintro w' ⟨s0, s1, s2⟩
       go_simp
       with_reducible rfl
     rotate_left
     · simp only [Act.put, qA, qB, qC, i64_w, i32_w]
       rfl
     refine one_ (i := 15) (N := some 87) #[true, true, true, true, true, true, true, true, true, true, true, true, true, true, true, true, true, true, true, false, false, false, false] rfl rfl (one_of HT_.out (by kernel_rfl)) (by decide) (fun K hK => ?_)
     refine goes_ Try.func30 (by kernel_rfl) rfl #[.agg #[.int .i64 a0_0, .slice A0_1 l0_1.length c0_1, .int .i64 a0_2], .slice A2 l2.length c2, .int .i64 a3] (by rfl) rfl rfl (by (try simp only [List.map_toArray, List.map_cons, List.map_nil]); first | done | rfl | (simp only [List.length_drop, List.length_take]; rfl)) ?_
     with_reducible refine (term_Part.calls k2 a0_0 _ _ l0_1 a0_2 _ _ l2 a3 t408 _ ?side1 ?side2 ?side3 ?side4 A27.out).mono ?_
     (case side1 => exact cU (Kd.C_below HR0_1.out HB.out))
     (case side2 => exact HC0_1.out)
     (case side3 => exact cU (Kd.C_below HR2.out HB.out))
     (case side4 => exact HC2.out)
     rintro e w38 ⟨rfl, hb⟩
     refine ⟨_, rfl, ?_⟩
     have n0_ := Aside0.mk (Kd.R_below (rU HO403.out) hb)
     have n1_ := Aside0.mk (Kd.R_below (rU HO406.out) hb)
     have n2_ := Aside0.mk (blk_below (g := gb394) (o := .cells #[.int .i64 a0_0, .slice A0_1 l0_1.length c0_1, .int .i64 a0_2] 43 (0, 0)) (bU BK394.out) hb)
     have n3_ := Aside0.mk (below_step (wV HB.out GE394.out) hb)
     clear HO403 HO406 BK394 HB; have HO403 := n0_; have HO406 := n1_; have BK394 := n2_; have HB := n3_; clear n0_ n1_ n2_ n3_; (try clear hb); (try clear hb2); (try clear hk); (try clear hi)
     refine hK.out _ _ ⟨(blk_cell BK394.out 0).trans rfl, (blk_cell BK394.out 1).trans rfl, (blk_cell BK394.out 2).trans rfl⟩ (fun hHeld => ?_)
     clear hK K
     refine norm_ (a' := ?_) ?_ ?_
     rotate_left
     · show Act.put _ (some 87) _ = _
       simp only [Act.put, qA, qB, qC, i64_w, i32_w]
       rfl
     refine one_ (i := 19) (N := some 91) #[true, true, true, true, true, true, true, true, true, true, true, true, true, true, true, true, true, true, true, true, false, false, false] rfl rfl (one_of HT_.out (by kernel_rfl)) (by decide) (fun K hK => ?_)
     refine goes_ Try.func31 (by kernel_rfl) rfl #[.agg #[.int .i64 a0_0, .slice A0_1 l0_1.length c0_1, .int .i64 a0_2], .slice A2 l2.length c2, .int .i64 a3] (by rfl) rfl rfl (by (try simp only [List.map_toArray, List.map_cons, List.map_nil]); first | done | rfl | (simp only [List.length_drop, List.length_take]; rfl)) ?_
     with_reducible refine (exegeteref14_Part.calls k2 a0_0 _ _ l0_1 a0_2 _ _ l2 a3 t409 _ ?side1 ?side2 ?side3 ?side4 A28.out).mono ?_
     (case side1 => exact cU (Kd.C_below HR0_1.out HB.out))
     (case side2 => exact HC0_1.out)
     (case side3 => exact cU (Kd.C_below HR2.out HB.out))
     (case side4 => exact HC2.out)
     rintro e w39 ⟨rfl, hb⟩
     refine ⟨_, rfl, ?_⟩
     have n0_ := Aside0.mk (Kd.R_below (rU HO403.out) hb)
     have n1_ := Aside0.mk (Kd.R_below (rU HO406.out) hb)
     have n2_ := Aside0.mk (blk_below (g := gb394) (o := .cells #[.int .i64 a0_0, .slice A0_1 l0_1.length c0_1, .int .i64 a0_2] 43 (0, 0)) (bU BK394.out) hb)
     have n3_ := Aside0.mk (below_step (wV HB.out GE394.out) hb)
     clear HO403 HO406 BK394 HB; have HO403 := n0_; have HO406 := n1_; have BK394 := n2_; have HB := n3_; clear n0_ n1_ n2_ n3_; (try clear hb); (try clear hb2); (try clear hk); (try clear hi)
     refine hK.out _ _ ⟨(blk_cell BK394.out 0).trans rfl, (blk_cell BK394.out 1).trans rfl, (blk_cell BK394.out 2).trans rfl⟩ (fun hHeld => ?_)
     clear hK K
     refine norm_ (a' := ?_) ?_ ?_
     rotate_left
     · show Act.put _ (some 91) _ = _
       simp only [Act.put, qA, qB, qC, i64_w, i32_w]
       rfl
     refine pure_ (i := 20) (N := some 92) (v := ?_) (a' := ?_) #[true, true, true, true, true, true, true, true, true, true, true, true, true, true, true, true, true, true, true, true, true, false, false] rfl rfl (any_of HT_.out (by kernel_rfl)) (fun _ _ _ h => h) (Or.inl ⟨by rfl, ?_⟩) ?_ ?_
     rotate_left
     · intro w'
       go_simp
       with_reducible rfl
     rotate_left
     · simp only [Act.put, qA, qB, qC, i64_w, i32_w]
       rfl
     refine pure_ (i := 21) (N := some 93) (v := ?_) (a' := ?_) #[true, true, true, true, true, true, true, true, true, true, true, true, true, true, true, true, true, true, true, true, true, true, false] rfl rfl (any_of HT_.out (by kernel_rfl)) (fun _ _ _ h => h) (Or.inl ⟨by rfl, ?_⟩) ?_ ?_
     rotate_left
     · intro w'
       go_simp
       with_reducible rfl
     rotate_left
     · simp only [Act.put, qA, qB, qC, i64_w, i32_w]
       rfl
     refine pure_ (i := 22) (N := some 8) (v := ?_) (a' := ?_) #[true, true, true, true, true, true, true, true, true, true, true, true, true, true, true, true, true, true, true, true, true, true, true] rfl rfl (any_of HT_.out (by kernel_rfl)) (fun _ _ _ h => h) (Or.inl ⟨by rfl, ?_⟩) ?_ ?_
     rotate_left
     · intro w'
       go_simp
       with_reducible rfl
     rotate_left
     · simp only [Act.put, qA, qB, qC, i64_w, i32_w]
       rfl
     refine done_ (done_of HT_.out (by kernel_rfl)) ?_
     try go_wp2
     go_ret
     exact ⟨by first | rfl | (simp [errW_none, errW_some] <;> rfl) | (simp [*, errW_none, errW_some] <;> rfl), wV HB.out GE394.out⟩
def exegetelaw14_TermTells.Pure : Prop := ∀ (a0_0 : Int) (l0_1 : List (S35)) (a0_2 : Int) (l1 : List (S43)) (l2 : List Int) (a3 : Int), (Lit.int .i64 a0_0).wf = true → (Lit.int .i64 a0_2).wf = true → l0_1.length ≤ maxLen → (∀ x ∈ l0_1, (Lit.int .i64 x.f0).wf = true ∧ (Lit.int .i64 x.f1).wf = true) → l1.length ≤ maxLen → (∀ x ∈ l1, Own.SymOk x) → l2.length ≤ maxLen → l2.length * 1 ≤ 140737488351232 → (∀ x ∈ l2, (Lit.int .u8 x).wf = true) → (Lit.int .i64 a3).wf = true → ∃ k, exegetelaw14_TermTells.f k a0_0 l0_1 a0_2 l1 l2 a3 = some true
theorem exegetelaw14_TermTells.walk (P : exegetelaw14_TermTells.Pure) (a0_0 a0_2 : Int) (A0_1 : Option Addr) (cap0 : Nat) (l0_1 : List (S35)) (a1 : Option Addr) (cap1 : Nat) (l1 : List (S43)) (a2 : Option Addr) (len2 cap2 : Nat) (z2 : List Int) (a3 : Int) (w : World) (w0_0 : (Lit.int .i64 a0_0).wf = true) (w0_2 : (Lit.int .i64 a0_2).wf = true) (hr0 : Kd.C k35 w A0_1 l0_1.length l0_1) (hm0 : l0_1.length ≤ maxLen) (hc0 : l0_1.length ≤ cap0) (hw0 : ∀ x ∈ l0_1, (Lit.int .i64 x.f0).wf = true ∧ (Lit.int .i64 x.f1).wf = true) (hr1 : Kd.C k43 w a1 l1.length l1) (hm1 : l1.length ≤ maxLen) (hc1 : l1.length ≤ cap1) (hw1 : ∀ x ∈ l1, Own.SymOk x) (w2 : (a2 = none ∧ len2 = 0 ∧ cap2 = 0 ∧ z2 = []) ∨ ∃ x, a2 = some x ∧ len2 ≤ cap2 ∧ cap2 ≤ maxLen ∧ z2.length = cap2 ∧ (∀ i, i < z2.length → w.cell? (x.add i) = some (.int .u8 (z2.getD i 0))) ∧ ∀ n ∈ z2, (Lit.int .u8 n).wf = true) (y2 : len2 * 1 ≤ 140737488351232) (w3 : (Lit.int .i64 a3).wf = true) :
 Calls Try.prog 9 #[.agg #[.int .i64 a0_0, .slice A0_1 l0_1.length cap0, .int .i64 a0_2], .slice a1 l1.length cap1, .slice a2 len2 cap2, .int .i64 a3] w fun e w' => e = .returned (.bool true) ∧ Below w.heap.size w w' := by
 obtain ⟨l2, rfl, hr2, hm2, hw2, hc2⟩ := ReadsInt.ofRowC w2
 obtain ⟨k, h⟩ := P a0_0 l0_1 a0_2 l1 l2 a3 w0_0 w0_2 hm0 hw0 hm1 hw1 hm2 y2 hw2 w3
 refine (exegetelaw14_TermTells.calls k a0_0 _ _ l0_1 a0_2 _ _ l1 _ _ l2 a3 true w hr0 hc0 hr1 hc1 (Kd.C_of_reads (d := (0 : Int)) (h1 := fun _ => rfl) hr2) hc2 h).mono ?_
 rintro e w' ⟨rfl, hd⟩
 exact ⟨rfl, hd⟩
end Go.Proofs.Ytcdahnkdongmdaa.All
