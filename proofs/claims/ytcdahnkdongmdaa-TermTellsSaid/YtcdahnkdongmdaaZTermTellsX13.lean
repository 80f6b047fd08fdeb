/- Texts of the claim TermTells, merged, without what it does not use. -/
import Derived.Test.YtcdahnkdongmdaaZTermTellsX1
import Derived.Test.YtcdahnkdongmdaaZTermTellsX12
namespace Go.Proofs.Ytcdahnkdongmdaa.All
open Go.RowKit Go.Proofs.YtcdahnkdongmdaaW.PrintWords Go.Proofs.YtcdahnkdongmdaaW.PrintLast Go.Proofs.YtcdahnkdongmdaaW.PrintMore
attribute [local go_sem] max2_int min2_int max_two min_two
set_option linter.unusedVariables false
set_option linter.unusedSimpArgs false
mutual
def exegeteref01_Next.j0 : Nat → List Int → Int → Bool → Option (Int × Int)
  | 0, _, _, _ => none
  | k + 1, x0, x1, x19 => if x19 = true then (some ((-1), 0)) else (exegeteref01_Next.l0 k x0 x1 (([0, 0, 192, 224, 240] : List Int)) 1)
def exegeteref01_Next.l0 : Nat → List Int → Int → List Int → Int → Option (Int × Int)
  | 0, _, _, _, _ => none
  | k + 1, x0, x1, x6, x7 => if x7 ≤ 4 then (exegeteref01_Next.j2 k x0 x1 x6 x7 (decide (x7 ≤ (wrap64 ((x0.length : Int) - x1))))) else (exegeteref01_Next.j2 k x0 x1 x6 x7 false)
def exegeteref01_Next.j2 : Nat → List Int → Int → List Int → Int → Bool → Option (Int × Int)
  | 0, _, _, _, _, _ => none
  | k + 1, x0, x1, x6, x7, x30 => if x30 = true then (if 0 ≤ x1 then (if x1 < (x0.length : Int) then (if 0 ≤ x7 then (if x7 < (x6.length : Int) then (exegeteref01_Next.l1 k x0 x1 x6 x7 (wrap64 ((wrap64 (rd x0 x1)) - (rd x6 x7))) 1) else (none)) else (none)) else (none)) else (none)) else (some ((-1), 1))
def exegeteref01_Next.l1 : Nat → List Int → Int → List Int → Int → Int → Int → Option (Int × Int)
  | 0, _, _, _, _, _, _ => none
  | k + 1, x0, x1, x6, x7, x8, x9 => if x9 < x7 then (if 0 ≤ (wrap64 (x1 + x9)) then (if (wrap64 (x1 + x9)) < (x0.length : Int) then (exegeteref01_Next.l1 k x0 x1 x6 x7 (wrap64 ((wrap64 ((wrap64 (64 * x8)) + (wrap64 (rd x0 (wrap64 (x1 + x9)))))) - 128)) (wrap64 (x9 + 1))) else (none)) else (none)) else ((exegeteref01_Put.f x8).bind fun bt256 => (if bt256.2 = true then (if 0 ≤ x1 then (if x1 ≤ (wrap64 (x1 + x7)) then (if (wrap64 (x1 + x7)) ≤ (x0.length : Int) then (if (strOfNums bt256.1).toList = (strOfNums ((x0.take ((wrap64 (x1 + x7)) : Int).toNat).drop (x1 : Int).toNat)).toList then (some (x8, x7)) else (exegeteref01_Next.l0 k x0 x1 x6 (wrap64 (x7 + 1)))) else (none)) else (none)) else (none)) else (exegeteref01_Next.l0 k x0 x1 x6 (wrap64 (x7 + 1)))))
end
def exegeteref01_Next.f (k : Nat) (l0 : List Int) (a1 : Int) : Option (Int × Int) := if a1 < 0 then (exegeteref01_Next.j0 k l0 a1 true) else (exegeteref01_Next.j0 k l0 a1 (decide (a1 ≥ (l0.length : Int))))
set_option maxHeartbeats 8000000 in
set_option maxRecDepth 100000 in
theorem exegeteref01_Next.calls (k : Nat) (A0 : Option Addr) (c0 : Nat) (l0 : List Int) (a1 : Int) (r1 : Int) (r2 : Int) (w : World) (hr0 : Kd.C (Kd.int .u8) w A0 l0.length l0) (hc0 : l0.length ≤ c0) (h : exegeteref01_Next.f k l0 a1 = some (r1, r2)) :
 Calls Try.prog 54 #[.slice A0 l0.length c0, .int .i64 a1] w fun e w' => e = .returned (.tuple #[.int .i64 r1, .int .i64 r2]) ∧ Below w.heap.size w w' := by
 have HR0 := Aside0.mk hr0
 have HC0 := Aside0.mk hc0
 clear hr0 hc0
 have HB := Aside0.mk (Below.refl w.heap.size w)
 have H : (if a1 < 0 then (exegeteref01_Next.j0 k l0 a1 true) else (exegeteref01_Next.j0 k l0 a1 (decide (a1 ≥ (l0.length : Int))))) = some (r1, r2) := h
 clear h; have HC3 := Aside0.mk H; clear H
 go_enter Try.func54, Try.ntmps54
 go_upto_region 1 with (fail)
 repeat (go_quiet (fail); go_upto_region 1 with (fail))
 go_cut [19] (fun v19 wc => ∃ (kq : Nat) (x19_2 : Bool), v19 = .bool x19_2 ∧ Aside0 (exegeteref01_Next.j0 kq l0 a1 x19_2 = some (r1, r2)) ∧ Aside0 (kq ≤ k) ∧ Aside0 (Below w.heap.size w wc))
 case first =>
  have H := HC3.out
  clear HC3
  by_cases c4 : a1 < 0
  · rw [if_pos c4] at H
    have c4b0 : decide (a1 < 0) = true := decide_eq_true c4
    clear c4
    (first | rw [c4b0] | (simp only [i64_w, i32_w]; rw [c4b0]) | skip)
    have H' := Aside0.mk H; clear H
    go_wp2
    repeat (go_quiet (fail); try go_wp2)
    go_meet
    case rel => exact ⟨_, (true), (by first | rfl | (simp; done) | (simp [*]; done) | (simp [*, bne]; done)), H', ⟨by first | omega | exact Nat.le_refl _⟩, ⟨wU HB.out⟩⟩
  rw [if_neg c4] at H
  have c4b0 : decide (a1 < 0) = false := decide_eq_false c4
  clear c4
  (first | rw [c4b0] | (simp only [i64_w, i32_w]; rw [c4b0]) | skip)
  have H' := Aside0.mk H; clear H
  go_wp2
  repeat (go_quiet (fail); try go_wp2)
  go_meet
  case rel => exact ⟨_, (decide (a1 ≥ (l0.length : Int))), (by first | rfl | (simp; done) | (simp [*]; done) | (simp [*, bne]; done)), H', ⟨by first | omega | exact Nat.le_refl _⟩, ⟨wU HB.out⟩⟩
 case rest =>
  clear HC3; (try clear p2); (try clear c4); (try clear c4b0)
  obtain ⟨kq, x19_2, rfl, HA, HJ2, HB⟩ := hcut
  cases kq with
  | zero => exact absurd HA.out (by simp [exegeteref01_Next.j0])
  | succ kj2 =>
   have H := HA.out
   clear HA
   simp only [exegeteref01_Next.j0] at H
   by_cases c5 : x19_2 = true
   · subst c5
     have H1 : (some ((-1), 0)) = some (r1, r2) := by rw [if_pos rfl] at H; exact H
     clear H; have H := H1; clear H1
     simp only [Option.some.injEq, Prod.mk.injEq] at H
     obtain ⟨rfl, rfl⟩ := H
     go_wp2
     repeat (go_quiet (fail); try go_wp2)
     go_ret2
     exact ⟨by first | rfl | (simp [errW_none, errW_some] <;> rfl) | (simp [*, errW_none, errW_some] <;> rfl), wU HB.out⟩
   replace c5 := Bool.eq_false_iff.mpr c5
   subst c5
   have H1 : (exegeteref01_Next.l0 kj2 l0 a1 (([0, 0, 192, 224, 240] : List Int)) 1) = some (r1, r2) := by rw [if_neg (show ¬ (false = true) by decide)] at H; exact H
   clear H; have H := H1; clear H1
   obtain ⟨y250, hy250⟩ : ∃ y_ : List Int, y_ = (([0, 0, 192, 224, 240] : List Int)) := ⟨_, rfl⟩
   replace H : (exegeteref01_Next.l0 kj2 l0 a1 y250 1) = some (r1, r2) := by first | (rw [hy250]; with_reducible exact H) | (have H2_ := (Option.bind_some _ _).symm.trans H; rw [hy250]; with_reducible exact H2_) | (have H2_ := (Option.bind_some _ _).symm.trans H; with_reducible exact H2_) | with_reducible exact H | (rw [hy250]; exact H) | exact H
   have Ny250 := Aside0.mk hy250
   clear hy250; have H' := Aside0.mk H; clear H
   go_wp2_with (first | ((with_reducible refine gate_dst (N := 20) rfl ?_); (try (refine gate_guard (by rfl) ?_; dsimp only)); refine Kd.R_lit (Kd.int .i64) _ 3 ?hg (N := 20) ?hd (xs := ([0, 0, 192, 224, 240] : List Int)) (inner := [.int .i64 0, .int .i64 0, .int .i64 192, .int .i64 224, .int .i64 240]) (ok := fun _ => True) (okp := fun _ => True) ?hr ?hp (fun _ hk => hk) trivial (Below.refl _ _) (Nat.le_refl _) (by simp) ?_; (case hd => rfl); (case hg => rfl); (case hr => first | (go_simp; done) | (go_simp; rfl)); (case hp => exact (Reps.one (show Kd.M (Kd.int .i64) _ _ _ 0 [.int .i64 0] from rfl) (Reps.one (show Kd.M (Kd.int .i64) _ _ _ 0 [.int .i64 0] from rfl) (Reps.one (show Kd.M (Kd.int .i64) _ _ _ 192 [.int .i64 192] from rfl) (Reps.one (show Kd.M (Kd.int .i64) _ _ _ 224 [.int .i64 224] from rfl) (Reps.one (show Kd.M (Kd.int .i64) _ _ _ 240 [.int .i64 240] from rfl) (Reps.none _ _))))))); intro v251 w6 ho7 hb hg_ hnew_; clear hg_ hnew_; (first | rw [← Ny250.out] at ho7 | (simp only [Int.reduceToNat] at ho7; rw [← Ny250.out] at ho7)); have n0_ := Aside0.mk (Kd.R_lower ho7 (below_size (wU HB.out))); have n1_ := Aside0.mk (below_step (wU HB.out) hb); clear HB; have HO252 := n0_; have HB := n1_; clear n0_ n1_; clear hb ho7))
   repeat (go_quiet (first | ((with_reducible refine gate_dst (N := 20) rfl ?_); (try (refine gate_guard (by rfl) ?_; dsimp only)); refine Kd.R_lit (Kd.int .i64) _ 3 ?hg (N := 20) ?hd (xs := ([0, 0, 192, 224, 240] : List Int)) (inner := [.int .i64 0, .int .i64 0, .int .i64 192, .int .i64 224, .int .i64 240]) (ok := fun _ => True) (okp := fun _ => True) ?hr ?hp (fun _ hk => hk) trivial (Below.refl _ _) (Nat.le_refl _) (by simp) ?_; (case hd => rfl); (case hg => rfl); (case hr => first | (go_simp; done) | (go_simp; rfl)); (case hp => exact (Reps.one (show Kd.M (Kd.int .i64) _ _ _ 0 [.int .i64 0] from rfl) (Reps.one (show Kd.M (Kd.int .i64) _ _ _ 0 [.int .i64 0] from rfl) (Reps.one (show Kd.M (Kd.int .i64) _ _ _ 192 [.int .i64 192] from rfl) (Reps.one (show Kd.M (Kd.int .i64) _ _ _ 224 [.int .i64 224] from rfl) (Reps.one (show Kd.M (Kd.int .i64) _ _ _ 240 [.int .i64 240] from rfl) (Reps.none _ _))))))); intro v251 w6 ho7 hb hg_ hnew_; clear hg_ hnew_; (first | rw [← Ny250.out] at ho7 | (simp only [Int.reduceToNat] at ho7; rw [← Ny250.out] at ho7)); have n0_ := Aside0.mk (Kd.R_lower ho7 (below_size (wU HB.out))); have n1_ := Aside0.mk (below_step (wU HB.out) hb); clear HB; have HO252 := n0_; have HB := n1_; clear n0_ n1_; clear hb ho7)); try go_wp2_with (first | ((with_reducible refine gate_dst (N := 20) rfl ?_); (try (refine gate_guard (by rfl) ?_; dsimp only)); refine Kd.R_lit (Kd.int .i64) _ 3 ?hg (N := 20) ?hd (xs := ([0, 0, 192, 224, 240] : List Int)) (inner := [.int .i64 0, .int .i64 0, .int .i64 192, .int .i64 224, .int .i64 240]) (ok := fun _ => True) (okp := fun _ => True) ?hr ?hp (fun _ hk => hk) trivial (Below.refl _ _) (Nat.le_refl _) (by simp) ?_; (case hd => rfl); (case hg => rfl); (case hr => first | (go_simp; done) | (go_simp; rfl)); (case hp => exact (Reps.one (show Kd.M (Kd.int .i64) _ _ _ 0 [.int .i64 0] from rfl) (Reps.one (show Kd.M (Kd.int .i64) _ _ _ 0 [.int .i64 0] from rfl) (Reps.one (show Kd.M (Kd.int .i64) _ _ _ 192 [.int .i64 192] from rfl) (Reps.one (show Kd.M (Kd.int .i64) _ _ _ 224 [.int .i64 224] from rfl) (Reps.one (show Kd.M (Kd.int .i64) _ _ _ 240 [.int .i64 240] from rfl) (Reps.none _ _))))))); intro v251 w6 ho7 hb hg_ hnew_; clear hg_ hnew_; (first | rw [← Ny250.out] at ho7 | (simp only [Int.reduceToNat] at ho7; rw [← Ny250.out] at ho7)); have n0_ := Aside0.mk (Kd.R_lower ho7 (below_size (wU HB.out))); have n1_ := Aside0.mk (below_step (wU HB.out) hb); clear HB; have HO252 := n0_; have HB := n1_; clear n0_ n1_; clear hb ho7)))
   go_loopg [7] kj2 (fun kq v7 w' => ∃ (x7_2 : Int), v7 = .int .i64 x7_2 ∧ Aside0 (exegeteref01_Next.l0 kq l0 a1 y250 x7_2 = some (r1, r2)) ∧ Aside0 (kq ≤ kj2) ∧ Aside0 (Kd.R (Kd.int .i64) 3 w' w.heap.size (fun _ => True) v251 y250) ∧ Aside0 (Below w.heap.size w w'))
   case atStart => exact ⟨(1), (by first | rfl | (simp; done) | (simp [*]; done) | (simp [*, bne]; done)), H', ⟨Nat.le_refl _⟩, ⟨rU HO252.out⟩, ⟨wU HB.out⟩⟩
   case round =>
    clear H'; (try clear p2); (try clear c4); (try clear c4b0); (try clear c5); (try clear p2)
    obtain ⟨x7_2, rfl, HA, HK2, HO_6, HB⟩ := hrel
    cases gk with
    | zero => exact absurd HA.out (by simp [exegeteref01_Next.l0])
    | succ k2 =>
     have H := HA.out
     clear HA
     simp only [exegeteref01_Next.l0] at H
     have HC8 := Aside0.mk H; clear H
     go_upto_region 5 with (fail)
     repeat (go_quiet (fail); go_upto_region 5 with (fail))
     go_cut [30] (fun v30 wc => ∃ (kq : Nat) (x30_7 : Bool), v30 = .bool x30_7 ∧ Aside0 (exegeteref01_Next.j2 kq l0 a1 y250 x7_2 x30_7 = some (r1, r2)) ∧ Aside0 (kq ≤ k2) ∧ Aside0 (Kd.R (Kd.int .i64) 3 wc w.heap.size (fun _ => True) v251 y250) ∧ Aside0 (Below w.heap.size w wc))
     case first =>
      have H := HC8.out
      clear HC8
      by_cases c9 : x7_2 ≤ 4
      · rw [if_pos c9] at H
        have c9b0 : decide (x7_2 ≤ 4) = true := decide_eq_true c9
        clear c9
        (first | rw [c9b0] | (simp only [i64_w, i32_w]; rw [c9b0]) | skip)
        have H' := Aside0.mk H; clear H
        go_wp2
        repeat (go_quiet (fail); try go_wp2)
        go_meet
        case rel => exact ⟨_, (decide (x7_2 ≤ (wrap64 ((l0.length : Int) - a1)))), (by first | rfl | (simp; done) | (simp [*]; done) | (simp [*, bne]; done)), H', ⟨by have := HJ2.out; have := HK2.out; first | omega | exact Nat.le_refl _⟩, ⟨rU HO_6.out⟩, ⟨wU HB.out⟩⟩
      rw [if_neg c9] at H
      have c9b0 : decide (x7_2 ≤ 4) = false := decide_eq_false c9
      clear c9
      (first | rw [c9b0] | (simp only [i64_w, i32_w]; rw [c9b0]) | skip)
      have H' := Aside0.mk H; clear H
      go_wp2
      repeat (go_quiet (fail); try go_wp2)
      go_meet
      case rel => exact ⟨_, (false), (by first | rfl | (simp; done) | (simp [*]; done) | (simp [*, bne]; done)), H', ⟨by have := HJ2.out; have := HK2.out; first | omega | exact Nat.le_refl _⟩, ⟨rU HO_6.out⟩, ⟨wU HB.out⟩⟩
     case rest =>
      clear HC8; (try clear p2); (try clear c4); (try clear c4b0); (try clear c5); (try clear p6); (try clear c9); (try clear c9b0); (try clear p2)
      obtain ⟨kq, x30_7, rfl, HA, HJ7, HO_6, HB⟩ := hcut
      cases kq with
      | zero => exact absurd HA.out (by simp [exegeteref01_Next.j2])
      | succ kj7 =>
       have H := HA.out
       clear HA
       simp only [exegeteref01_Next.j2] at H
       by_cases c10 : x30_7 = true
       rotate_left
       · replace c10 := Bool.eq_false_iff.mpr c10
         subst c10
         have H1 : (some ((-1), 1)) = some (r1, r2) := by rw [if_neg (show ¬ (false = true) by decide)] at H; exact H
         clear H; have H := H1; clear H1
         simp only [Option.some.injEq, Prod.mk.injEq] at H
         obtain ⟨rfl, rfl⟩ := H
         go_wp2
         repeat (go_quiet (fail); try go_wp2)
         go_ret2
         exact ⟨by first | rfl | (simp [errW_none, errW_some] <;> rfl) | (simp [*, errW_none, errW_some] <;> rfl), wU HB.out⟩
       subst c10
       have H1 : (if 0 ≤ a1 then (if a1 < (l0.length : Int) then (if 0 ≤ x7_2 then (if x7_2 < (y250.length : Int) then (exegeteref01_Next.l1 kj7 l0 a1 y250 x7_2 (wrap64 ((wrap64 (rd l0 a1)) - (rd y250 x7_2))) 1) else (none)) else (none)) else (none)) else (none)) = some (r1, r2) := by rw [if_pos rfl] at H; exact H
       clear H; have H := H1; clear H1
       by_cases c11 : 0 ≤ a1
       rotate_left
       · rw [if_neg c11] at H
         exact absurd H (by simp)
       rw [if_pos c11] at H
       have c11b0 : decide (0 ≤ a1) = true := decide_eq_true c11
       clear c11
       by_cases c12 : a1 < (l0.length : Int)
       rotate_left
       · rw [if_neg c12] at H
         exact absurd H (by simp)
       rw [if_pos c12] at H
       have c12b0 : decide (a1 < (l0.length : Int)) = true := decide_eq_true c12
       clear c12
       by_cases c13 : 0 ≤ x7_2
       rotate_left
       · rw [if_neg c13] at H
         exact absurd H (by simp)
       rw [if_pos c13] at H
       have c13b0 : decide (0 ≤ x7_2) = true := decide_eq_true c13
       clear c13
       by_cases c14 : x7_2 < (y250.length : Int)
       rotate_left
       · rw [if_neg c14] at H
         exact absurd H (by simp)
       rw [if_pos c14] at H
       have c14b0 : decide (x7_2 < (y250.length : Int)) = true := decide_eq_true c14
       clear c14; have H' := Aside0.mk H; clear H
       have p253 : 0 ≤ (a1 : Int) := of_decide_eq_true (by first | (with_reducible assumption) | assumption)
       have q253 : a1 < (l0.length : Int) := of_decide_eq_true (by first | (with_reducible assumption) | assumption)
       obtain ⟨ad253, e253, hx253_0⟩ := Kd.at_int HR0.out a1 p253 q253
       cases e253
       replace hx253_0 := (HB.out.cell (World.block_lt_of_cell? w _ hx253_0)).trans hx253_0
       replace p253 := eq_true p253; replace q253 := eq_true q253
       obtain ⟨Ao15, co15, eo15⟩ := Kd.R_slice HO_6.out
       subst eo15
       have p254 : 0 ≤ (x7_2 : Int) := of_decide_eq_true (by first | (with_reducible assumption) | assumption)
       have q254 : x7_2 < (y250.length : Int) := of_decide_eq_true (by first | (with_reducible assumption) | assumption)
       obtain ⟨ad254, e254, hx254_0⟩ := Kd.at_int (Kd.R_reads' HO_6.out).2.2 x7_2 p254 q254
       cases e254; replace p254 := eq_true p254; replace q254 := eq_true q254
       go_wp2
       repeat (go_quiet (fail); try go_wp2)
       go_loopg [8, 9] kj7 (fun kq v8 v9 w' => ∃ (x8_4 : Int) (x9_4 : Int), v8 = .int .i64 x8_4 ∧ v9 = .int .i64 x9_4 ∧ Aside0 (exegeteref01_Next.l1 kq l0 a1 y250 x7_2 x8_4 x9_4 = some (r1, r2)) ∧ Aside0 (kq ≤ kj7) ∧ Aside0 (Kd.R (Kd.int .i64) 3 w' w.heap.size (fun _ => True) (.slice (some ad254) y250.length co15) y250) ∧ Aside0 (Below w.heap.size w w'))
       case atStart => exact ⟨(wrap64 ((wrap64 (rd l0 a1)) - (rd y250 x7_2))), (1), (by first | rfl | (simp; done) | (simp [*]; done) | (simp [*, bne]; done)), (by first | rfl | (simp; done) | (simp [*]; done) | (simp [*, bne]; done)), H', ⟨Nat.le_refl _⟩, ⟨rU HO_6.out⟩, ⟨wU HB.out⟩⟩
       case round =>
        clear H'; (try clear c1); (try clear p2); (try clear q2); (try clear hx2); (try clear c4); (try clear c4b0); (try clear c5); (try clear p6); (try clear c9); (try clear c9b0); (try clear c10); (try clear c11); (try clear c11b0); (try clear c12); (try clear c12b0); (try clear c13); (try clear c13b0); (try clear c14); (try clear c14b0); (try clear hx253_0); (try clear hx254_0); (try clear p2); (try clear p253)
        (try clear p254); (try clear p6); (try clear q253); (try clear q254)
        obtain ⟨x8_4, x9_4, rfl, rfl, HA, HK4, HO_6, HB⟩ := hrel
        cases gk with
        | zero => exact absurd HA.out (by simp [exegeteref01_Next.l1])
        | succ k4 =>
         have H := HA.out
         clear HA
         simp only [exegeteref01_Next.l1] at H
         by_cases c16 : x9_4 < x7_2
         · rw [if_pos c16] at H
           have c16b0 : decide (x9_4 < x7_2) = true := decide_eq_true c16
           clear c16
           obtain ⟨ji17, hji17⟩ : ∃ j_ : Int, (wrap64 (a1 + x9_4)) = j_ := ⟨_, rfl⟩
           replace H : (if 0 ≤ (ji17) then (if (ji17) < (l0.length : Int) then (exegeteref01_Next.l1 k4 l0 a1 y250 x7_2 (wrap64 ((wrap64 ((wrap64 (64 * x8_4)) + (wrap64 (rd l0 (ji17))))) - 128)) (wrap64 (x9_4 + 1))) else (none)) else (none)) = some (r1, r2) := by first | (rw [hji17] at H; exact H) | (simp only [hji17] at H ⊢; exact H)
           have hji17w : (IntKind.i64.wrap (a1 + x9_4)) = ji17 := (i64_w _).trans hji17
           by_cases c18 : 0 ≤ (ji17)
           rotate_left
           · rw [if_neg c18] at H
             exact absurd H (by simp)
           rw [if_pos c18] at H
           have c18b0 : decide (0 ≤ (ji17)) = true := decide_eq_true c18
           clear c18
           by_cases c19 : (ji17) < (l0.length : Int)
           rotate_left
           · rw [if_neg c19] at H
             exact absurd H (by simp)
           rw [if_pos c19] at H
           have c19b0 : decide ((ji17) < (l0.length : Int)) = true := decide_eq_true c19
           clear c19; have H' := Aside0.mk H; clear H
           have p255 : 0 ≤ ((ji17) : Int) := of_decide_eq_true (by first | (with_reducible assumption) | assumption)
           have q255 : (ji17) < (l0.length : Int) := of_decide_eq_true (by first | (with_reducible assumption) | assumption)
           obtain ⟨ad255, e255, hx255_0⟩ := Kd.at_int HR0.out (ji17) p255 q255
           obtain rfl : ad253 = ad255 := (by injection e255)
           replace hx255_0 := (HB.out.cell (World.block_lt_of_cell? w _ hx255_0)).trans hx255_0
           replace p255 := eq_true p255; replace q255 := eq_true q255
           go_wp2
           repeat (go_quiet (fail); try go_wp2)
           go_roundg k4
           case measure => have := HJ2.out; have := HK2.out; have := HJ7.out; have := HK4.out; omega
           case rel => exact ⟨(wrap64 ((wrap64 ((wrap64 (64 * x8_4)) + (wrap64 (rd l0 (ji17))))) - 128)), (wrap64 (x9_4 + 1)), (by first | rfl | (simp; done) | (simp only [← hji17] <;> (first | rfl | simp)) | (simp [*]; done)), (by first | rfl | (simp; done) | (simp [*]; done) | (simp [*, bne]; done)), (by first | exact H' | (subst hji17; exact H')), ⟨by have := HJ2.out; have := HK2.out; have := HJ7.out; have := HK4.out; omega⟩, ⟨rU HO_6.out⟩, ⟨wU HB.out⟩⟩
         rw [if_neg c16] at H
         have c16b0 : decide (x9_4 < x7_2) = false := decide_eq_false c16
         clear c16
         replace H := Option.bind_eq_some_iff.mp H
         obtain ⟨⟨t256, t257⟩, A200, H⟩ := H
         replace H : (if t257 = true then (if 0 ≤ a1 then (if a1 ≤ (wrap64 (a1 + x7_2)) then (if (wrap64 (a1 + x7_2)) ≤ (l0.length : Int) then (if (strOfNums t256).toList = (strOfNums ((l0.take ((wrap64 (a1 + x7_2)) : Int).toNat).drop (a1 : Int).toNat)).toList then (some (x8_4, x7_2)) else (exegeteref01_Next.l0 k4 l0 a1 y250 (wrap64 (x7_2 + 1)))) else (none)) else (none)) else (none)) else (exegeteref01_Next.l0 k4 l0 a1 y250 (wrap64 (x7_2 + 1)))) = some (r1, r2) := H
         have A20 := Aside0.mk A200
         clear A200
         by_cases c21 : t257 = true
         rotate_left
         · replace c21 := Bool.eq_false_iff.mpr c21
           subst c21
           have H1 : (exegeteref01_Next.l0 k4 l0 a1 y250 (wrap64 (x7_2 + 1))) = some (r1, r2) := by rw [if_neg (show ¬ (false = true) by decide)] at H; exact H
           clear H; have H := H1; clear H1; have H' := Aside0.mk H; clear H
           go_wp2_with (first | (go_at_call 65; (with_reducible refine (exegeteref01_Put.calls x8_4 t256 false _ A20.out).mono ?_); rintro e w34 ⟨v258, rfl, ho0, hb⟩; have n0_ := Aside0.mk (Kd.R_below (rU HO_6.out) hb); have n1_ := Aside0.mk (Kd.R_lower ho0 (below_size (wU HB.out))); have n2_ := Aside0.mk (below_step (wU HB.out) hb); clear HO_6; clear HB; have HO_6 := n0_; have HO259 := n1_; have HB := n2_; clear n0_ n1_ n2_; (try clear hb); (try clear hb2); (try clear hk); (try clear hi); (try clear ho0)))
           repeat (go_quiet (first | (go_at_call 65; (with_reducible refine (exegeteref01_Put.calls x8_4 t256 false _ A20.out).mono ?_); rintro e w34 ⟨v258, rfl, ho0, hb⟩; have n0_ := Aside0.mk (Kd.R_below (rU HO_6.out) hb); have n1_ := Aside0.mk (Kd.R_lower ho0 (below_size (wU HB.out))); have n2_ := Aside0.mk (below_step (wU HB.out) hb); clear HO_6; clear HB; have HO_6 := n0_; have HO259 := n1_; have HB := n2_; clear n0_ n1_ n2_; (try clear hb); (try clear hb2); (try clear hk); (try clear hi); (try clear ho0))); try go_wp2_with (first | (go_at_call 65; (with_reducible refine (exegeteref01_Put.calls x8_4 t256 false _ A20.out).mono ?_); rintro e w34 ⟨v258, rfl, ho0, hb⟩; have n0_ := Aside0.mk (Kd.R_below (rU HO_6.out) hb); have n1_ := Aside0.mk (Kd.R_lower ho0 (below_size (wU HB.out))); have n2_ := Aside0.mk (below_step (wU HB.out) hb); clear HO_6; clear HB; have HO_6 := n0_; have HO259 := n1_; have HB := n2_; clear n0_ n1_ n2_; (try clear hb); (try clear hb2); (try clear hk); (try clear hi); (try clear ho0))))
           go_roundg k4
           case measure => have := HJ2.out; have := HK2.out; have := HJ7.out; have := HK4.out; omega
           case rel => exact ⟨(wrap64 (x7_2 + 1)), (by first | rfl | (simp; done) | (simp [*]; done) | (simp [*, bne]; done)), (by first | exact H' | (subst hji17; exact H')), ⟨by have := HJ2.out; have := HK2.out; have := HJ7.out; have := HK4.out; omega⟩, ⟨rU HO_6.out⟩, ⟨wU HB.out⟩⟩
         subst c21
         have H1 : (if 0 ≤ a1 then (if a1 ≤ (wrap64 (a1 + x7_2)) then (if (wrap64 (a1 + x7_2)) ≤ (l0.length : Int) then (if (strOfNums t256).toList = (strOfNums ((l0.take ((wrap64 (a1 + x7_2)) : Int).toNat).drop (a1 : Int).toNat)).toList then (some (x8_4, x7_2)) else (exegeteref01_Next.l0 k4 l0 a1 y250 (wrap64 (x7_2 + 1)))) else (none)) else (none)) else (none)) = some (r1, r2) := by rw [if_pos rfl] at H; exact H
         clear H; have H := H1; clear H1
         by_cases c22 : 0 ≤ a1
         rotate_left
         · rw [if_neg c22] at H
           exact absurd H (by simp)
         rw [if_pos c22] at H
         have c22b0 := eq_true c22
         have c22b1 : decide (0 ≤ a1) = true := decide_eq_true c22
         clear c22
         by_cases c23 : a1 ≤ (wrap64 (a1 + x7_2))
         rotate_left
         · rw [if_neg c23] at H
           exact absurd H (by simp)
         rw [if_pos c23] at H
         have c23b0 := eq_true c23
         have c23b1 : decide (a1 ≤ (wrap64 (a1 + x7_2))) = true := decide_eq_true c23
         by_cases c24 : (wrap64 (a1 + x7_2)) ≤ (l0.length : Int)
         rotate_left
         · rw [if_neg c24] at H
           exact absurd H (by simp)
         rw [if_pos c24] at H
         have c24b0 := eq_true c24
         have c24b1 : decide ((wrap64 (a1 + x7_2)) ≤ (l0.length : Int)) = true := decide_eq_true c24
         obtain ⟨y260, hy260⟩ : ∃ y_ : List Int, y_ = ((l0.take ((wrap64 (a1 + x7_2)) : Int).toNat).drop (a1 : Int).toNat) := ⟨_, rfl⟩
         replace H : (if (strOfNums t256).toList = (strOfNums y260).toList then (some (x8_4, x7_2)) else (exegeteref01_Next.l0 k4 l0 a1 y250 (wrap64 (x7_2 + 1)))) = some (r1, r2) := by first | (rw [hy260]; with_reducible exact H) | (have H2_ := (Option.bind_some _ _).symm.trans H; rw [hy260]; with_reducible exact H2_) | (have H2_ := (Option.bind_some _ _).symm.trans H; with_reducible exact H2_) | with_reducible exact H | (rw [hy260]; exact H) | exact H
         have Ny260 := Aside0.mk hy260
         clear hy260
         by_cases c25 : (strOfNums t256).toList = (strOfNums y260).toList
         · rw [if_pos c25] at H
           have c25b0 : ((strOfNums t256).toList == (strOfNums y260).toList) = true := beq_iff_eq.mpr c25
           have c25b1 : ((strOfNums t256).toList != (strOfNums y260).toList) = false := bne_eq_false_iff_eq.mpr c25
           clear c25
           simp only [Option.some.injEq, Prod.mk.injEq] at H
           obtain ⟨rfl, rfl⟩ := H
           go_wp2_with (first | (go_at_call 65; (with_reducible refine (exegeteref01_Put.calls x8_4 t256 true _ A20.out).mono ?_); rintro e w26 ⟨v258, rfl, ho0, hb⟩; have n0_ := Aside0.mk (Kd.R_below (rU HO_6.out) hb); have n1_ := Aside0.mk (Kd.R_lower ho0 (below_size (wU HB.out))); have n2_ := Aside0.mk (below_step (wU HB.out) hb); clear HO_6; clear HB; have HO_6 := n0_; have HO259 := n1_; have HB := n2_; clear n0_ n1_ n2_; (try clear hb); (try clear hb2); (try clear hk); (try clear hi); (try clear ho0); have hcv27 := own_string (P := Try.prog) Try.underlying24 Try.underlying5 Try.underlying9 (Kd.own_of_R HO259.out); have hcvq27 := fun nq_ : Nat => own_string (P := Try.prog) Try.underlying24 Try.underlying5 Try.underlying9 (Kd.own_of_R (Kd.R_drewN HO259.out nq_)); have q28 : ((wrap64 (a1 + x7_2)) : Int) ≤ ((l0.length : Int) : Int) := of_decide_eq_true (by first | (with_reducible assumption) | assumption); obtain ⟨i028, hi028, _, hsz28, _⟩ := info_parts info5; have hroom28 : l0.length ≤ c0 := HC0.out; have hC28 : Kd.C (Kd.int .u8) _ (some ad253) l0.length l0 := HR0.out; have ql28 : (a1 : Int) ≤ ((wrap64 (a1 + x7_2)) : Int) := of_decide_eq_true (by first | (with_reducible assumption) | assumption); have q028 : (0 : Int) ≤ (a1 : Int) := of_decide_eq_true (by first | (with_reducible assumption) | assumption); have hw28_0 : IntKind.i64.wrap (a1 + x7_2) = wrap64 (a1 + x7_2) := IntWalk.i64_left _; have hcut28 := cut_mid (P := Try.prog) 24 5 .i64 .i64 Try.underlying24 hi028 1 hsz28 (some ad253) l0.length c0 a1 (wrap64 (a1 + x7_2)) q028 ql28 q28 hroom28; have hr28 := Kd.C_mid (lo := (a1 : Int).toNat) (hi := ((wrap64 (a1 + x7_2)) : Int).toNat) (c := c0) hC28 (by omega) (by omega) hroom28; obtain ⟨A28, hA28⟩ : ∃ A1_, A1_ = (if c0 = (a1 : Int).toNat then (some ad253) else ((some ad253) : Option Addr).map (·.add ((a1 : Int).toNat * 1))) := ⟨_, rfl⟩; obtain ⟨c28, hc28⟩ : ∃ c1_, c1_ = c0 - (a1 : Int).toNat := ⟨_, rfl⟩; have hy28 : y260.length = ((wrap64 (a1 + x7_2)) : Int).toNat - (a1 : Int).toNat := (by rw [Ny260.out, List.length_drop, List.length_take] <;> omega); rw [show ((l0).take ((wrap64 (a1 + x7_2)) : Int).toNat).drop (a1 : Int).toNat = y260 from Ny260.out.symm] at hr28; replace hr28 : Kd.C (Kd.int .u8) _ A28 y260.length y260 := (by rw [hA28]; exact hr28); rw [← hy28, ← hA28, ← hc28] at hcut28; have HR263 := Aside0.mk hr28; have HC263 := Aside0.mk (show y260.length ≤ c28 from by rw [hy28, hc28]; exact Nat.sub_le_sub_right (Nat.le_trans (by omega) hroom28) _); clear hr28 hC28 hroom28 hi028 hsz28 hc28; have KY28 := Aside0.mk hy28; have KA28 := Aside0.mk hA28; clear hy28 hA28; replace q28 := eq_true q28; have hcv29 := Kd.C_string (P := Try.prog) (A := A28) (c := c28) Try.underlying24 Try.underlying5 Try.underlying9 (Kd.C_below HR263.out HB.out); have hcvq29 := fun nq_ : Nat => Kd.C_string (P := Try.prog) (A := A28) (c := c28) Try.underlying24 Try.underlying5 Try.underlying9 (Kd.C_drewN (Kd.C_below HR263.out HB.out) nq_); skip))
           repeat (go_quiet (first | (go_at_call 65; (with_reducible refine (exegeteref01_Put.calls x8_4 t256 true _ A20.out).mono ?_); rintro e w26 ⟨v258, rfl, ho0, hb⟩; have n0_ := Aside0.mk (Kd.R_below (rU HO_6.out) hb); have n1_ := Aside0.mk (Kd.R_lower ho0 (below_size (wU HB.out))); have n2_ := Aside0.mk (below_step (wU HB.out) hb); clear HO_6; clear HB; have HO_6 := n0_; have HO259 := n1_; have HB := n2_; clear n0_ n1_ n2_; (try clear hb); (try clear hb2); (try clear hk); (try clear hi); (try clear ho0); have hcv27 := own_string (P := Try.prog) Try.underlying24 Try.underlying5 Try.underlying9 (Kd.own_of_R HO259.out); have hcvq27 := fun nq_ : Nat => own_string (P := Try.prog) Try.underlying24 Try.underlying5 Try.underlying9 (Kd.own_of_R (Kd.R_drewN HO259.out nq_)); have q28 : ((wrap64 (a1 + x7_2)) : Int) ≤ ((l0.length : Int) : Int) := of_decide_eq_true (by first | (with_reducible assumption) | assumption); obtain ⟨i028, hi028, _, hsz28, _⟩ := info_parts info5; have hroom28 : l0.length ≤ c0 := HC0.out; have hC28 : Kd.C (Kd.int .u8) _ (some ad253) l0.length l0 := HR0.out; have ql28 : (a1 : Int) ≤ ((wrap64 (a1 + x7_2)) : Int) := of_decide_eq_true (by first | (with_reducible assumption) | assumption); have q028 : (0 : Int) ≤ (a1 : Int) := of_decide_eq_true (by first | (with_reducible assumption) | assumption); (try clear hcut28); have hw28_0 : IntKind.i64.wrap (a1 + x7_2) = wrap64 (a1 + x7_2) := IntWalk.i64_left _; have hcut28 := cut_mid (P := Try.prog) 24 5 .i64 .i64 Try.underlying24 hi028 1 hsz28 (some ad253) l0.length c0 a1 (wrap64 (a1 + x7_2)) q028 ql28 q28 hroom28; have hr28 := Kd.C_mid (lo := (a1 : Int).toNat) (hi := ((wrap64 (a1 + x7_2)) : Int).toNat) (c := c0) hC28 (by omega) (by omega) hroom28; obtain ⟨A28, hA28⟩ : ∃ A1_, A1_ = (if c0 = (a1 : Int).toNat then (some ad253) else ((some ad253) : Option Addr).map (·.add ((a1 : Int).toNat * 1))) := ⟨_, rfl⟩; obtain ⟨c28, hc28⟩ : ∃ c1_, c1_ = c0 - (a1 : Int).toNat := ⟨_, rfl⟩; have hy28 : y260.length = ((wrap64 (a1 + x7_2)) : Int).toNat - (a1 : Int).toNat := (by rw [Ny260.out, List.length_drop, List.length_take] <;> omega); rw [show ((l0).take ((wrap64 (a1 + x7_2)) : Int).toNat).drop (a1 : Int).toNat = y260 from Ny260.out.symm] at hr28; replace hr28 : Kd.C (Kd.int .u8) _ A28 y260.length y260 := (by rw [hA28]; exact hr28); rw [← hy28, ← hA28, ← hc28] at hcut28; have HR263 := Aside0.mk hr28; have HC263 := Aside0.mk (show y260.length ≤ c28 from by rw [hy28, hc28]; exact Nat.sub_le_sub_right (Nat.le_trans (by omega) hroom28) _); clear hr28 hC28 hroom28 hi028 hsz28 hc28; have KY28 := Aside0.mk hy28; have KA28 := Aside0.mk hA28; clear hy28 hA28; replace q28 := eq_true q28; have hcv29 := Kd.C_string (P := Try.prog) (A := A28) (c := c28) Try.underlying24 Try.underlying5 Try.underlying9 (Kd.C_below HR263.out HB.out); have hcvq29 := fun nq_ : Nat => Kd.C_string (P := Try.prog) (A := A28) (c := c28) Try.underlying24 Try.underlying5 Try.underlying9 (Kd.C_drewN (Kd.C_below HR263.out HB.out) nq_); skip)); try go_wp2_with (first | (go_at_call 65; (with_reducible refine (exegeteref01_Put.calls x8_4 t256 true _ A20.out).mono ?_); rintro e w26 ⟨v258, rfl, ho0, hb⟩; have n0_ := Aside0.mk (Kd.R_below (rU HO_6.out) hb); have n1_ := Aside0.mk (Kd.R_lower ho0 (below_size (wU HB.out))); have n2_ := Aside0.mk (below_step (wU HB.out) hb); clear HO_6; clear HB; have HO_6 := n0_; have HO259 := n1_; have HB := n2_; clear n0_ n1_ n2_; (try clear hb); (try clear hb2); (try clear hk); (try clear hi); (try clear ho0); have hcv27 := own_string (P := Try.prog) Try.underlying24 Try.underlying5 Try.underlying9 (Kd.own_of_R HO259.out); have hcvq27 := fun nq_ : Nat => own_string (P := Try.prog) Try.underlying24 Try.underlying5 Try.underlying9 (Kd.own_of_R (Kd.R_drewN HO259.out nq_)); have q28 : ((wrap64 (a1 + x7_2)) : Int) ≤ ((l0.length : Int) : Int) := of_decide_eq_true (by first | (with_reducible assumption) | assumption); obtain ⟨i028, hi028, _, hsz28, _⟩ := info_parts info5; have hroom28 : l0.length ≤ c0 := HC0.out; have hC28 : Kd.C (Kd.int .u8) _ (some ad253) l0.length l0 := HR0.out; have ql28 : (a1 : Int) ≤ ((wrap64 (a1 + x7_2)) : Int) := of_decide_eq_true (by first | (with_reducible assumption) | assumption); have q028 : (0 : Int) ≤ (a1 : Int) := of_decide_eq_true (by first | (with_reducible assumption) | assumption); (try clear hcut28); have hw28_0 : IntKind.i64.wrap (a1 + x7_2) = wrap64 (a1 + x7_2) := IntWalk.i64_left _; have hcut28 := cut_mid (P := Try.prog) 24 5 .i64 .i64 Try.underlying24 hi028 1 hsz28 (some ad253) l0.length c0 a1 (wrap64 (a1 + x7_2)) q028 ql28 q28 hroom28; have hr28 := Kd.C_mid (lo := (a1 : Int).toNat) (hi := ((wrap64 (a1 + x7_2)) : Int).toNat) (c := c0) hC28 (by omega) (by omega) hroom28; obtain ⟨A28, hA28⟩ : ∃ A1_, A1_ = (if c0 = (a1 : Int).toNat then (some ad253) else ((some ad253) : Option Addr).map (·.add ((a1 : Int).toNat * 1))) := ⟨_, rfl⟩; obtain ⟨c28, hc28⟩ : ∃ c1_, c1_ = c0 - (a1 : Int).toNat := ⟨_, rfl⟩; have hy28 : y260.length = ((wrap64 (a1 + x7_2)) : Int).toNat - (a1 : Int).toNat := (by rw [Ny260.out, List.length_drop, List.length_take] <;> omega); rw [show ((l0).take ((wrap64 (a1 + x7_2)) : Int).toNat).drop (a1 : Int).toNat = y260 from Ny260.out.symm] at hr28; replace hr28 : Kd.C (Kd.int .u8) _ A28 y260.length y260 := (by rw [hA28]; exact hr28); rw [← hy28, ← hA28, ← hc28] at hcut28; have HR263 := Aside0.mk hr28; have HC263 := Aside0.mk (show y260.length ≤ c28 from by rw [hy28, hc28]; exact Nat.sub_le_sub_right (Nat.le_trans (by omega) hroom28) _); clear hr28 hC28 hroom28 hi028 hsz28 hc28; have KY28 := Aside0.mk hy28; have KA28 := Aside0.mk hA28; clear hy28 hA28; replace q28 := eq_true q28; have hcv29 := Kd.C_string (P := Try.prog) (A := A28) (c := c28) Try.underlying24 Try.underlying5 Try.underlying9 (Kd.C_below HR263.out HB.out); have hcvq29 := fun nq_ : Nat => Kd.C_string (P := Try.prog) (A := A28) (c := c28) Try.underlying24 Try.underlying5 Try.underlying9 (Kd.C_drewN (Kd.C_below HR263.out HB.out) nq_); skip)))
           go_ret2
           exact ⟨by first | rfl | (simp [errW_none, errW_some] <;> rfl) | (simp [*, errW_none, errW_some] <;> rfl), wU HB.out⟩
         rw [if_neg c25] at H
         have c25b0 : ((strOfNums t256).toList == (strOfNums y260).toList) = false := beq_eq_false_iff_ne.mpr c25
         have c25b1 : ((strOfNums t256).toList != (strOfNums y260).toList) = true := bne_iff_ne.mpr c25
         have H' := Aside0.mk H; clear H
         go_wp2_with (first | (go_at_call 65; (with_reducible refine (exegeteref01_Put.calls x8_4 t256 true _ A20.out).mono ?_); rintro e w30 ⟨v258, rfl, ho0, hb⟩; have n0_ := Aside0.mk (Kd.R_below (rU HO_6.out) hb); have n1_ := Aside0.mk (Kd.R_lower ho0 (below_size (wU HB.out))); have n2_ := Aside0.mk (below_step (wU HB.out) hb); clear HO_6; clear HB; have HO_6 := n0_; have HO259 := n1_; have HB := n2_; clear n0_ n1_ n2_; (try clear hb); (try clear hb2); (try clear hk); (try clear hi); (try clear ho0); have hcv31 := own_string (P := Try.prog) Try.underlying24 Try.underlying5 Try.underlying9 (Kd.own_of_R HO259.out); have hcvq31 := fun nq_ : Nat => own_string (P := Try.prog) Try.underlying24 Try.underlying5 Try.underlying9 (Kd.own_of_R (Kd.R_drewN HO259.out nq_)); have q32 : ((wrap64 (a1 + x7_2)) : Int) ≤ ((l0.length : Int) : Int) := of_decide_eq_true (by first | (with_reducible assumption) | assumption); obtain ⟨i032, hi032, _, hsz32, _⟩ := info_parts info5; have hroom32 : l0.length ≤ c0 := HC0.out; have hC32 : Kd.C (Kd.int .u8) _ (some ad253) l0.length l0 := HR0.out; have ql32 : (a1 : Int) ≤ ((wrap64 (a1 + x7_2)) : Int) := of_decide_eq_true (by first | (with_reducible assumption) | assumption); have q032 : (0 : Int) ≤ (a1 : Int) := of_decide_eq_true (by first | (with_reducible assumption) | assumption); (try clear hcut28); have hw32_0 : IntKind.i64.wrap (a1 + x7_2) = wrap64 (a1 + x7_2) := IntWalk.i64_left _; have hcut32 := cut_mid (P := Try.prog) 24 5 .i64 .i64 Try.underlying24 hi032 1 hsz32 (some ad253) l0.length c0 a1 (wrap64 (a1 + x7_2)) q032 ql32 q32 hroom32; have hr32 := Kd.C_mid (lo := (a1 : Int).toNat) (hi := ((wrap64 (a1 + x7_2)) : Int).toNat) (c := c0) hC32 (by omega) (by omega) hroom32; obtain ⟨A32, hA32⟩ : ∃ A1_, A1_ = (if c0 = (a1 : Int).toNat then (some ad253) else ((some ad253) : Option Addr).map (·.add ((a1 : Int).toNat * 1))) := ⟨_, rfl⟩; obtain ⟨c32, hc32⟩ : ∃ c1_, c1_ = c0 - (a1 : Int).toNat := ⟨_, rfl⟩; have hy32 : y260.length = ((wrap64 (a1 + x7_2)) : Int).toNat - (a1 : Int).toNat := (by rw [Ny260.out, List.length_drop, List.length_take] <;> omega); rw [show ((l0).take ((wrap64 (a1 + x7_2)) : Int).toNat).drop (a1 : Int).toNat = y260 from Ny260.out.symm] at hr32; replace hr32 : Kd.C (Kd.int .u8) _ A32 y260.length y260 := (by rw [hA32]; exact hr32); rw [← hy32, ← hA32, ← hc32] at hcut32; have HR263 := Aside0.mk hr32; have HC263 := Aside0.mk (show y260.length ≤ c32 from by rw [hy32, hc32]; exact Nat.sub_le_sub_right (Nat.le_trans (by omega) hroom32) _); clear hr32 hC32 hroom32 hi032 hsz32 hc32; have KY32 := Aside0.mk hy32; have KA32 := Aside0.mk hA32; clear hy32 hA32; replace q32 := eq_true q32; have hcv33 := Kd.C_string (P := Try.prog) (A := A32) (c := c32) Try.underlying24 Try.underlying5 Try.underlying9 (Kd.C_below HR263.out HB.out); have hcvq33 := fun nq_ : Nat => Kd.C_string (P := Try.prog) (A := A32) (c := c32) Try.underlying24 Try.underlying5 Try.underlying9 (Kd.C_drewN (Kd.C_below HR263.out HB.out) nq_); skip))
         repeat (go_quiet (first | (go_at_call 65; (with_reducible refine (exegeteref01_Put.calls x8_4 t256 true _ A20.out).mono ?_); rintro e w30 ⟨v258, rfl, ho0, hb⟩; have n0_ := Aside0.mk (Kd.R_below (rU HO_6.out) hb); have n1_ := Aside0.mk (Kd.R_lower ho0 (below_size (wU HB.out))); have n2_ := Aside0.mk (below_step (wU HB.out) hb); clear HO_6; clear HB; have HO_6 := n0_; have HO259 := n1_; have HB := n2_; clear n0_ n1_ n2_; (try clear hb); (try clear hb2); (try clear hk); (try clear hi); (try clear ho0); have hcv31 := own_string (P := Try.prog) Try.underlying24 Try.underlying5 Try.underlying9 (Kd.own_of_R HO259.out); have hcvq31 := fun nq_ : Nat => own_string (P := Try.prog) Try.underlying24 Try.underlying5 Try.underlying9 (Kd.own_of_R (Kd.R_drewN HO259.out nq_)); have q32 : ((wrap64 (a1 + x7_2)) : Int) ≤ ((l0.length : Int) : Int) := of_decide_eq_true (by first | (with_reducible assumption) | assumption); obtain ⟨i032, hi032, _, hsz32, _⟩ := info_parts info5; have hroom32 : l0.length ≤ c0 := HC0.out; have hC32 : Kd.C (Kd.int .u8) _ (some ad253) l0.length l0 := HR0.out; have ql32 : (a1 : Int) ≤ ((wrap64 (a1 + x7_2)) : Int) := of_decide_eq_true (by first | (with_reducible assumption) | assumption); have q032 : (0 : Int) ≤ (a1 : Int) := of_decide_eq_true (by first | (with_reducible assumption) | assumption); (try clear hcut32); have hw32_0 : IntKind.i64.wrap (a1 + x7_2) = wrap64 (a1 + x7_2) := IntWalk.i64_left _; have hcut32 := cut_mid (P := Try.prog) 24 5 .i64 .i64 Try.underlying24 hi032 1 hsz32 (some ad253) l0.length c0 a1 (wrap64 (a1 + x7_2)) q032 ql32 q32 hroom32; have hr32 := Kd.C_mid (lo := (a1 : Int).toNat) (hi := ((wrap64 (a1 + x7_2)) : Int).toNat) (c := c0) hC32 (by omega) (by omega) hroom32; obtain ⟨A32, hA32⟩ : ∃ A1_, A1_ = (if c0 = (a1 : Int).toNat then (some ad253) else ((some ad253) : Option Addr).map (·.add ((a1 : Int).toNat * 1))) := ⟨_, rfl⟩; obtain ⟨c32, hc32⟩ : ∃ c1_, c1_ = c0 - (a1 : Int).toNat := ⟨_, rfl⟩; have hy32 : y260.length = ((wrap64 (a1 + x7_2)) : Int).toNat - (a1 : Int).toNat := (by rw [Ny260.out, List.length_drop, List.length_take] <;> omega); rw [show ((l0).take ((wrap64 (a1 + x7_2)) : Int).toNat).drop (a1 : Int).toNat = y260 from Ny260.out.symm] at hr32; replace hr32 : Kd.C (Kd.int .u8) _ A32 y260.length y260 := (by rw [hA32]; exact hr32); rw [← hy32, ← hA32, ← hc32] at hcut32; have HR263 := Aside0.mk hr32; have HC263 := Aside0.mk (show y260.length ≤ c32 from by rw [hy32, hc32]; exact Nat.sub_le_sub_right (Nat.le_trans (by omega) hroom32) _); clear hr32 hC32 hroom32 hi032 hsz32 hc32; have KY32 := Aside0.mk hy32; have KA32 := Aside0.mk hA32; clear hy32 hA32; replace q32 := eq_true q32; have hcv33 := Kd.C_string (P := Try.prog) (A := A32) (c := c32) Try.underlying24 Try.underlying5 Try.underlying9 (Kd.C_below HR263.out HB.out); have hcvq33 := fun nq_ : Nat => Kd.C_string (P := Try.prog) (A := A32) (c := c32) Try.underlying24 Try.underlying5 Try.underlying9 (Kd.C_drewN (Kd.C_below HR263.out HB.out) nq_); skip)); try go_wp2_with (first | (go_at_call 65; (with_reducible refine (exegeteref01_Put.calls x8_4 t256 true _ A20.out).mono ?_); rintro e w30 ⟨v258, rfl, ho0, hb⟩; have n0_ := Aside0.mk (Kd.R_below (rU HO_6.out) hb); have n1_ := Aside0.mk (Kd.R_lower ho0 (below_size (wU HB.out))); have n2_ := Aside0.mk (below_step (wU HB.out) hb); clear HO_6; clear HB; have HO_6 := n0_; have HO259 := n1_; have HB := n2_; clear n0_ n1_ n2_; (try clear hb); (try clear hb2); (try clear hk); (try clear hi); (try clear ho0); have hcv31 := own_string (P := Try.prog) Try.underlying24 Try.underlying5 Try.underlying9 (Kd.own_of_R HO259.out); have hcvq31 := fun nq_ : Nat => own_string (P := Try.prog) Try.underlying24 Try.underlying5 Try.underlying9 (Kd.own_of_R (Kd.R_drewN HO259.out nq_)); have q32 : ((wrap64 (a1 + x7_2)) : Int) ≤ ((l0.length : Int) : Int) := of_decide_eq_true (by first | (with_reducible assumption) | assumption); obtain ⟨i032, hi032, _, hsz32, _⟩ := info_parts info5; have hroom32 : l0.length ≤ c0 := HC0.out; have hC32 : Kd.C (Kd.int .u8) _ (some ad253) l0.length l0 := HR0.out; have ql32 : (a1 : Int) ≤ ((wrap64 (a1 + x7_2)) : Int) := of_decide_eq_true (by first | (with_reducible assumption) | assumption); have q032 : (0 : Int) ≤ (a1 : Int) := of_decide_eq_true (by first | (with_reducible assumption) | assumption); (try clear hcut32); have hw32_0 : IntKind.i64.wrap (a1 + x7_2) = wrap64 (a1 + x7_2) := IntWalk.i64_left _; have hcut32 := cut_mid (P := Try.prog) 24 5 .i64 .i64 Try.underlying24 hi032 1 hsz32 (some ad253) l0.length c0 a1 (wrap64 (a1 + x7_2)) q032 ql32 q32 hroom32; have hr32 := Kd.C_mid (lo := (a1 : Int).toNat) (hi := ((wrap64 (a1 + x7_2)) : Int).toNat) (c := c0) hC32 (by omega) (by omega) hroom32; obtain ⟨A32, hA32⟩ : ∃ A1_, A1_ = (if c0 = (a1 : Int).toNat then (some ad253) else ((some ad253) : Option Addr).map (·.add ((a1 : Int).toNat * 1))) := ⟨_, rfl⟩; obtain ⟨c32, hc32⟩ : ∃ c1_, c1_ = c0 - (a1 : Int).toNat := ⟨_, rfl⟩; have hy32 : y260.length = ((wrap64 (a1 + x7_2)) : Int).toNat - (a1 : Int).toNat := (by rw [Ny260.out, List.length_drop, List.length_take] <;> omega); rw [show ((l0).take ((wrap64 (a1 + x7_2)) : Int).toNat).drop (a1 : Int).toNat = y260 from Ny260.out.symm] at hr32; replace hr32 : Kd.C (Kd.int .u8) _ A32 y260.length y260 := (by rw [hA32]; exact hr32); rw [← hy32, ← hA32, ← hc32] at hcut32; have HR263 := Aside0.mk hr32; have HC263 := Aside0.mk (show y260.length ≤ c32 from by rw [hy32, hc32]; exact Nat.sub_le_sub_right (Nat.le_trans (by omega) hroom32) _); clear hr32 hC32 hroom32 hi032 hsz32 hc32; have KY32 := Aside0.mk hy32; have KA32 := Aside0.mk hA32; clear hy32 hA32; replace q32 := eq_true q32; have hcv33 := Kd.C_string (P := Try.prog) (A := A32) (c := c32) Try.underlying24 Try.underlying5 Try.underlying9 (Kd.C_below HR263.out HB.out); have hcvq33 := fun nq_ : Nat => Kd.C_string (P := Try.prog) (A := A32) (c := c32) Try.underlying24 Try.underlying5 Try.underlying9 (Kd.C_drewN (Kd.C_below HR263.out HB.out) nq_); skip)))
         go_roundg k4
         case measure => have := HJ2.out; have := HK2.out; have := HJ7.out; have := HK4.out; omega
         case rel => exact ⟨(wrap64 (x7_2 + 1)), (by first | rfl | (simp; done) | (simp [*]; done) | (simp [*, bne]; done)), (by first | exact H' | (subst hji17; exact H')), ⟨by have := HJ2.out; have := HK2.out; have := HJ7.out; have := HK4.out; omega⟩, ⟨rU HO_6.out⟩, ⟨wU HB.out⟩⟩
end Go.Proofs.Ytcdahnkdongmdaa.All
