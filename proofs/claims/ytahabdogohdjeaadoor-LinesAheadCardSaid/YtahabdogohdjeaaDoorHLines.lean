/- The walks of lines.Ends, lines.Line and lines.First (a closure, a range over a function, a library function): own work. -/
import Derived.Test.YtahabdogohdjeaaDoorProg
import Derived.Below
import Derived.Deep.Draws
import Derived.Deep.AppendLies
import Derived.Maps.AppendAt
import Derived.OwnWalk
import Derived.Laws.BytesArg
import Derived.Laws.MakeOwn
import Derived.Laws.OwnMore
import Derived.Deep.OwnRows
import Derived.Tactics
import Derived.Lib.ConvBytes
import Derived.Laws.Slices
import Derived.WalkKit
import Derived.KernelRfl
import Derived.RowKit3
import Derived.Deep.LoopGhost
import Derived.Deep.QuietTactic
import Derived.BigQuiet
import Derived.WideLaws
import Derived.Deep.DeepCutAuto
import Derived.Deep.CutBlock
import Derived.Deep.RegionHeld3
import Derived.Laws.Rows
import Derived.Lib.AppendStr
import Derived.ArgAppend
import Derived.Laws.IdiomCopy
import Derived.OrdersHeld
import Derived.Laws.BitsLemmas
import Derived.RowKit
import Derived.LoopN
import Derived.Test.YtahabdogohdjeaaDoorMUtf
import Derived.Test.YtahabdogohdjeaaDoorWWords
import Derived.Test.YtahabdogohdjeaaDoorWLast
import Derived.Test.YtahabdogohdjeaaDoorWTab
import Derived.Test.YtahabdogohdjeaaDoorWFour
import Derived.Test.YtahabdogohdjeaaDoorWQPut
import Derived.Test.YtahabdogohdjeaaDoorWApart
import Derived.Test.YtahabdogohdjeaaDoorWArr
import Derived.Test.YtahabdogohdjeaaDoorWZeros
import Derived.Test.YtahabdogohdjeaaDoorWFoot
import Derived.Test.YtahabdogohdjeaaDoorWKept
import Derived.Test.YtahabdogohdjeaaDoorWShare
import Derived.Test.YtahabdogohdjeaaDoorWN
import Derived.Test.YtahabdogohdjeaaDoorWFootNe
import Derived.Test.YtahabdogohdjeaaDoorWAt
import Derived.Test.YtahabdogohdjeaaDoorWEqStruct
import Derived.Test.YtahabdogohdjeaaDoorWRepsOne
import Derived.Test.YtahabdogohdjeaaDoorWInv
import Derived.Test.YtahabdogohdjeaaDoorWInvWords
import Derived.Test.YtahabdogohdjeaaDoorWGuard
import Derived.Test.YtahabdogohdjeaaDoorWNEv
import Derived.Test.YtahabdogohdjeaaDoorWMore
import Derived.Outline
import Derived.RangeFuncNested
import Derived.RangeFuncBound
import Derived.RangeFuncCalls
import Derived.RangeFuncLeaves
import Derived.Shelf.Abstract
import Derived.OwnWalkIn
import Derived.TacticsInMore
import Derived.LoopNIn
import Derived.LoopIn
import Derived.RangeFuncBox
import Derived.Shelf.Bytes.SlTrim
import Derived.Lib.SlBytesConst
namespace Go.Proofs
open Go.Shelf
def Tryd.trimLays_ren : Go.Shelf.Ren := ⟨fun | 8 => 27 | 9 => 35 | 11 => 36 | 12 => 37 | 14 => 38 | 16 => 42 | 17 => 43 | 18 => 44 | 20 => 48 | n => n, fun | 22 => 22 | 9 => 9 | 3 => 3 | 4 => 4 | 5 => 5 | 28 => 49 | 27 => 48 | 0 => 0 | 31 => 52 | 33 => 59 | 21 => 21 | 36 => 64 | 37 => 62 | 40 => 67 | 39 => 66 | n => n, fun | 0 => 1 | 1 => 2 | n => n⟩
theorem Tryd.trimLays : Go.Proofs.SlLaysV.n8 Tryd.prog Tryd.trimLays_ren := {
  mixed := by kernel_rfl
  f8 := Tryd.func27.trans (congrArg some (by kernel_rfl))
  f9 := Tryd.func35.trans (congrArg some (by kernel_rfl))
  f11 := Tryd.func36.trans (congrArg some (by kernel_rfl))
  f12 := Tryd.func37.trans (congrArg some (by kernel_rfl))
  f14 := Tryd.func38.trans (congrArg some (by kernel_rfl))
  f16 := Tryd.func42.trans (congrArg some (by kernel_rfl))
  f17 := Tryd.func43.trans (congrArg some (by kernel_rfl))
  f18 := Tryd.func44.trans (congrArg some (by kernel_rfl))
  f20 := Tryd.func48.trans (congrArg some (by kernel_rfl))
  t0 := Tryd.underlying0
  a0 := Tryd.isAgg0
  z0 := Tryd.sizeOf0
  v0 := Tryd.zeroValue0
  t3 := Tryd.underlying3
  a3 := Tryd.isAgg3
  z3 := Tryd.sizeOf3
  v3 := Tryd.zeroValue3
  t4 := Tryd.underlying4
  a4 := Tryd.isAgg4
  z4 := Tryd.sizeOf4
  v4 := Tryd.zeroValue4
  t5 := Tryd.underlying5
  a5 := Tryd.isAgg5
  z5 := Tryd.sizeOf5
  v5 := Tryd.zeroValue5
  t9 := Tryd.underlying9
  a9 := Tryd.isAgg9
  z9 := Tryd.sizeOf9
  v9 := Tryd.zeroValue9
  t21 := Tryd.underlying21
  a21 := Tryd.isAgg21
  z21 := Tryd.sizeOf21
  v21 := Tryd.zeroValue21
  t22 := Tryd.underlying22
  a22 := Tryd.isAgg22
  z22 := Tryd.sizeOf22
  v22 := Tryd.zeroValue22
  t27 := Tryd.underlying48
  a27 := Tryd.isAgg48
  z27 := Tryd.sizeOf48
  t28 := Tryd.underlying49
  a28 := Tryd.isAgg49
  z28 := Tryd.sizeOf49
  v28 := Tryd.zeroValue49
  t31 := Tryd.underlying52
  a31 := Tryd.isAgg52
  z31 := Tryd.sizeOf52
  v31 := Tryd.zeroValue52
  t33 := Tryd.underlying59
  a33 := Tryd.isAgg59
  z33 := Tryd.sizeOf59
  v33 := Tryd.zeroValue59
  t36 := Tryd.underlying64
  a36 := Tryd.isAgg64
  z36 := Tryd.sizeOf64
  t37 := Tryd.underlying62
  a37 := Tryd.isAgg62
  z37 := Tryd.sizeOf62
  v37 := Tryd.zeroValue62
  t39 := Tryd.underlying66
  a39 := Tryd.isAgg66
  z39 := Tryd.sizeOf66
  v39 := Tryd.zeroValue66
  t40 := Tryd.underlying67
  a40 := Tryd.isAgg67
  z40 := Tryd.sizeOf67
  v40 := Tryd.zeroValue67 }
end Go.Proofs
namespace Go.Proofs.YtahabdogohdjeaaDoor.Own
open Go.RowKit Go.Shelf Go.Proofs.YtahabdogohdjeaaDoorW.PrintWords Go.Proofs.YtahabdogohdjeaaDoorW.PrintLast Go.Proofs.YtahabdogohdjeaaDoorW.PrintMore
set_option linter.unusedVariables false
set_option linter.unusedSimpArgs false
attribute [local go_sem] Oper.semAt_some
theorem info3 : (Tryd.prog.info? 3).map (fun i => (i.zero, i.size, i.bytes)) = some (some (.int .i64 0), 1, 8) := by kernel_rfl
theorem info5 : (Tryd.prog.info? 5).map (fun i => (i.zero, i.size, i.bytes)) = some (some (.int .u8 0), 1, 1) := by kernel_rfl

theorem place_calls (A : Option Addr) (c : Nat) (n : Nat) (a1 : Int) (w : World) (r : Bool) (h : (decide (a1 ≥ 0) && decide (a1 ≤ (n : Int))) = r) :
    Calls Tryd.prog 24 #[.slice A n c, .int .i64 a1] w fun e w' => e = .returned (.bool r) ∧ w = w' := by
  by_cases h1 : a1 ≥ 0
  · have b1 : decide (0 ≤ a1) = true := decide_eq_true h1
    have e : r = decide (a1 ≤ (n : Int)) := by rw [← h]; simp [h1]
    subst e; clear h
    go_enter Tryd.func24, Tryd.ntmps24
    go_wp2
    go_ret
    exact ⟨rfl, rfl⟩
  · have b1 : decide (0 ≤ a1) = false := decide_eq_false h1
    have e : r = false := by rw [← h]; simp [h1]
    subst e; clear h
    go_enter Tryd.func24, Tryd.ntmps24
    go_wp2
    go_ret
    exact ⟨rfl, rfl⟩

/-- The places behind line feeds, from a place on. -/
def feedsFrom : Int → List Int → List Int
  | _, [] => []
  | i, c :: t => if c = 10 then (i + 1) :: feedsFrom (i + 1) t else feedsFrom (i + 1) t

theorem feeds_calls (A : Option Addr) (n c : Nat) (w : World) :
    Calls Tryd.prog 23 #[.slice A n c] w fun e w' => e = .returned (.func (.func 33) #[] #[.pointer (some ⟨w.heap.size, 0, none⟩)]) ∧ w' = w.alloc (.cells #[.slice A n c] 22) := by
  go_enter Tryd.func23, Tryd.ntmps23
  go_wp2
  go_ret
  exact ⟨rfl, rfl⟩

set_option maxHeartbeats 2000000 in
set_option maxRecDepth 100000 in
theorem feeds_stops (F : Fence) (n : Nat) (hF : F.fn 33) (hro : F.round = none) (hn : 1 ≤ n) (Bn : Nat) (w0 w : World) (A : Option Addr) (l0 : List Int) (c : Nat) (hw : Below w0.heap.size w0 w) (hr : Kd.C (Kd.int .u8) w0 A l0.length l0)
    (hB1 : Bn < w.heap.size) (hB : w.cell? ⟨Bn, 0, none⟩ = some (.slice A l0.length c)) :
    SeqStopsK F n Tryd.prog 33 #[.pointer (some ⟨Bn, 0, none⟩)] (fun x : Int => #[.int .i64 x]) (Below w0.heap.size) (fun xs => xs = feedsFrom 0 l0) (fun pre => pre <+: feedsFrom 0 l0) l0.length w := fun l J Jx W hW hJ hJx hY h0 => by
  have hBW : W.cell? ⟨Bn, 0, none⟩ = some (.slice A l0.length c) := (hW.cell (p := ⟨Bn, 0, none⟩) hB1).trans hB
  have hWw : Below w0.heap.size w0 W := hw.trans (hW.mono hw.size)
  have HR := Aside0.mk hr
  have HW := Aside0.mk hWw
  clear hr hWw hW hJ hJx hB hw
  refine callsIn_of_wp Tryd.func33 rfl hF ?_ hro
  simp only [Tryd.ntmps33, List.size_toArray, List.length_cons, List.length_nil, Nat.reduceAdd, Nat.reduceSub, Array.replicate_succ, Array.replicate_zero, List.push_toArray, List.append_toArray, List.nil_append, List.cons_append]
  gi_wp2
  gi_loopw [7] (fun i wr => ∃ (k : Nat) (pre : List Int), k ≤ l0.length ∧ i = .int .i64 k ∧ pre.length ≤ k ∧ Aside0 (feedsFrom 0 l0 = pre ++ feedsFrom (k : Int) (l0.drop k)) ∧ J pre wr ∧ Aside0 (Below w0.heap.size w0 wr))
    (fun i _ => l0.length - (intOf i).toNat)
  case atStart => exact ⟨0, [], Nat.zero_le _, rfl, Nat.le_refl _, ⟨rfl⟩, h0, HW⟩
  case round =>
    obtain ⟨k, pre, hk, rfl, hpl, hpre, hJs, HB⟩ := hrel
    have hmax : l0.length ≤ 9223372036854775807 := HR.out.2.1
    by_cases hlt : k < l0.length
    · obtain ⟨ad, e0, hcx⟩ := Kd.at_int (Kd.C_below HR.out HB.out) (k : Int) (by omega) (by omega)
      subst e0
      rw [Int.toNat_natCast] at hcx
      have hd : l0.drop k = rd l0 (k : Int) :: l0.drop (k + 1) := by
        rw [List.drop_eq_getElem_cons hlt]
        simp [rd, List.getD_eq_getElem?_getD, List.getElem?_eq_getElem hlt]
      by_cases hf : rd l0 (k : Int) = 10
      · have hpre2 := Aside0.mk (show feedsFrom 0 l0 = (pre ++ [(k : Int) + 1]) ++ feedsFrom ((k + 1 : Nat) : Int) (l0.drop (k + 1)) by
          rw [hpre.out, hd, feedsFrom, if_pos hf, List.append_assoc]; rfl)
        clear hd hpre
        obtain ⟨fn, tmps, assign, body, hy, hR⟩ := hY pre ((k : Int) + 1) wr hJs (by omega)
        have hb : (rd l0 (k : Int) == 10) = true := beq_iff_eq.mpr hf
        clear hf
        gi_wp2
        refine hR.mono ?_
        rintro e W3 (⟨rfl, hJ3, hk3⟩ | ⟨rfl, hJx3⟩)
        · gi_wp2
          go_roundw
          case rel => exact ⟨k + 1, pre ++ [(k : Int) + 1], by omega, by simp, by simp; omega, hpre2, hJ3, ⟨HB.out.trans hk3⟩⟩
          case measure => simp [intOf]; omega
        · gi_wp2
          refine bodyPost_ret (results_none rfl _ _ _) rfl ?_
          exact ⟨⟨_, rfl⟩, .inr ⟨_, ⟨_, hpre2.out.symm⟩, hJx3⟩⟩
      · have hpre2 := Aside0.mk (show feedsFrom 0 l0 = pre ++ feedsFrom ((k + 1 : Nat) : Int) (l0.drop (k + 1)) by
          rw [hpre.out, hd, feedsFrom, if_neg hf]; rfl)
        clear hd hpre
        have hb : (rd l0 (k : Int) == 10) = false := beq_eq_false_iff_ne.mpr hf
        clear hf
        gi_wp2
        refine ⟨fun _ h => (by cases h), ?_⟩
        gi_wp2
        go_roundw
        case rel => exact ⟨k + 1, pre, by omega, by simp, by omega, hpre2, hJs, HB⟩
        case measure => simp [intOf]; omega
    · have hk2 : k = l0.length := by omega
      have hpre2 := Aside0.mk (show feedsFrom 0 l0 = pre by rw [hpre.out, hk2, List.drop_length]; simp [feedsFrom])
      have hge : decide ((k : Int) < (l0.length : Int)) = false := decide_eq_false (by omega)
      have hge2 : decide (k < l0.length) = false := decide_eq_false (by omega)
      clear hk2 hpre
      gi_wp2
      go_end0
      exact ⟨⟨_, rfl⟩, .inl ⟨pre, hpre2.out.symm, hJs⟩⟩
theorem fx_box {W : World} {B : Nat} {v : Value} {t : TypeId} (h : W.heap[B]? = some (.cells #[v] t (0, 0))) : W.cell? ⟨B, 0, none⟩ = some v ∧ W.frozen? ⟨B, 0, none⟩ = false := by
  constructor <;> simp [World.cell?, World.frozen?, h]
theorem fx_new (W : World) (v : Value) (t : TypeId) : (W.alloc (.cells #[v] t)).cell? ⟨W.heap.size, 0, none⟩ = some v ∧ (W.alloc (.cells #[v] t)).frozen? ⟨W.heap.size, 0, none⟩ = false :=
  fx_box (World.alloc_heap_new W _)
theorem fx_cell {W : World} {a : Addr} {v : Value} (o : Obj) (h : W.cell? a = some v) : (W.alloc o).cell? a = some v := cell_kept h (World.grownBy_alloc W o none) (fun r e => by cases e)
theorem fx_frozen {W : World} {a : Addr} {v : Value} (o : Obj) (h : W.cell? a = some v) (hf : W.frozen? a = false) : (W.alloc o).frozen? a = false := (frozen_kept h (World.grownBy_alloc W o none) (fun r e => by cases e)).trans hf
theorem feedsFrom_length : ∀ (i : Int) (l : List Int), (feedsFrom i l).length ≤ l.length
  | _, [] => Nat.le_refl _
  | i, c :: t => by
    have := feedsFrom_length (i + 1) t
    unfold feedsFrom
    split <;> simp <;> omega

set_option maxHeartbeats 4000000 in
set_option maxRecDepth 100000 in
theorem line_in (A0 : Option Addr) (c0 : Nat) (l0 : List Int) (a1 : Int) (w : World) (hr0 : Kd.C (Kd.int .u8) w A0 l0.length l0) (hc0 : l0.length ≤ c0) (h0 : 0 ≤ a1) (h1 : a1 ≤ (l0.length : Int)) :
    CallsIn Fence.wide 3 Tryd.prog 16 #[.slice A0 l0.length c0, .int .i64 a1] w fun e w' => e = .returned (.int .i64 ((feedsFrom 0 (l0.take a1.toNat)).length : Int)) ∧ Below w.heap.size w w' := by
  have hmax : l0.length ≤ 9223372036854775807 := hr0.2.1
  obtain ⟨i0, hi0, _, hsz, _⟩ := info_parts info5
  have hcut := cut_to (P := Tryd.prog) 22 5 .i64 Tryd.underlying22 hi0 A0 l0.length c0 a1 h0 h1 hc0
  have hr := Kd.C_take (m := a1.toNat) hr0 (by omega)
  have hy : (l0.take a1.toNat).length = a1.toNat := by rw [List.length_take]; omega
  generalize l0.take a1.toNat = y at *
  rw [← hy] at hcut
  have hl : (feedsFrom 0 y).length ≤ y.length := feedsFrom_length 0 y
  have hym : y.length ≤ 9223372036854775807 := by omega
  have HR := Aside0.mk hr
  clear hr hr0 hi0 hsz hy
  have hp := fun W => place_calls A0 c0 l0.length a1 W true (by simp [h0, h1])
  refine callsIn_of_wp_marks Tryd.func16 rfl trivial ?_ rfl
  simp only [Tryd.ntmps16, List.size_toArray, List.length_cons, List.length_nil, Nat.reduceAdd, Nat.reduceSub, Array.replicate_succ, Array.replicate_zero, List.push_toArray, List.append_toArray, List.nil_append, List.cons_append]
  gi_wp2_with (refine ⟨trivial, ?_⟩; first | (gi_at_call 24; refine (callsIn_wide.2 (hp _)).mono ?_; rintro e w' ⟨rfl, rfl⟩) | (gi_at_call 23; refine (callsIn_wide.2 (feeds_calls _ _ _ _)).mono ?_; rintro e w' ⟨rfl, rfl⟩))
  have hs := fx_new w (.int .i64 0) 3
  have hb := fx_new (w.alloc (.cells #[.int .i64 0] 3)) (.slice A0 y.length c0) 22
  rw [World.size_alloc] at hb
  have hB0 : Below w.heap.size w ((w.alloc (.cells #[.int .i64 0] 3)).alloc (.cells #[.slice A0 y.length c0] 22)) := ((Below.refl _ w).alloc (Nat.le_refl _) _).alloc (by simp) _
  refine wpIn_rangeFunc_ownF rfl (by omega) (gf := 33) (lb := #[.pointer (some ⟨w.heap.size + 1, 0, none⟩)]) rfl trivial (enters_of Tryd.func33 (by kernel_rfl) rfl)
    (feeds_stops Fence.wide (3 - 1) trivial rfl (by omega) (w.heap.size + 1) w _ A0 y c0 hB0 HR.out (by simp) hb.1) belowK_t (belowK_b (by simp; omega)) (Below.refl _ _) (fun _ => rfl)
    (fun pre W => (W.cell? ⟨w.heap.size, 0, none⟩ = some (.int .i64 (pre.length : Int)) ∧ W.frozen? ⟨w.heap.size, 0, none⟩ = false) ∧ Below w.heap.size w W)
    (fun _ _ _ => False)
    (OwnFrom.and (Own.from (fun s A B row hs hg hr => ⟨cell_kept hs.1 hg hr, (frozen_kept hs.1 hg hr).trans hs.2⟩) _) (ownFrom_below (Nat.le_refl _) (by simp; omega)))
    (fun _ _ _ _ _ hs _ _ => hs)
    ⟨⟨fx_cell _ hs.1, fx_frozen _ hs.1 hs.2⟩, hB0⟩
    (fun x => { tmps := #[.slice A0 l0.length c0, .int .i64 a1, undef, undef, .int .i64 0, .pointer (some ⟨w.heap.size, 0, none⟩), .slice A0 l0.length c0, .int .i64 a1, .bool true, .bool false, .slice A0 l0.length c0, .int .i64 a1, .slice A0 y.length c0, .func (.func 33) #[] #[.pointer (some ⟨w.heap.size + 1, 0, none⟩)], .int .i64 x, undef, undef, undef], defers := [] }) ?assign ?body ?done ?stop
  case assign =>
    intro l x W K hK
    gi_wp2
    simpa using hK
  case body =>
    rintro l pre x W ⟨⟨hc, hf⟩, hB⟩ hlen
    gi_wp2
    exact ⟨KeepsOthers.setCell _ _ _, (Below.refl w.heap.size W).setCell (p := ⟨w.heap.size, 0, none⟩) (Nat.le_refl _) _, ⟨by rw [List.length_append]; exact World.cell?_setCell_same' _ _ _ (by rw [hc]; rfl), by rw [World.frozen?_setCell]; exact hf⟩, hB.setCell (p := ⟨w.heap.size, 0, none⟩) (Nat.le_refl _) _⟩
  case done =>
    rintro D ys W hD rfl ⟨⟨hc, _⟩, hB⟩ hK
    gi_wp2
    refine ⟨by simp, .inl ⟨_, _, rfl, run_takeDeferred hK, ?_⟩⟩
    exact ⟨_, results_tmp rfl _ _ _, rfl, hB.trans (belowK_b (w := w) (Nat.le_refl _) W D _ _ (by simp at hD; omega) hK rfl rfl)⟩
  case stop =>
    rintro D c pre W _ _ h _
    exact h.elim

theorem bx_not_row {W : World} {B : Nat} {t e : TypeId} {u : Value} (h : Boxed W B t u) {base size k : Nat} {v : Value} {xs : List Value} (hr : W.ownsRow base e size v k xs) (hB : B < base) : some B ≠ v.ownBlock := by
  intro e'
  have := (hr.lt B e'.symm).1
  omega

theorem bx_set_other {W : World} {B B' : Nat} {t : TypeId} {v u : Value} (h : Boxed W B t v) (hne : B ≠ B') : Boxed (W.setCell ⟨B', 0, none⟩ u) B t v :=
  h.kept (grownBy_setCell' W B' u) (by simpa using hne)

theorem bx_mono {w : World} {base base' : Nat} {e : TypeId} {size : Nat} {v : Value} {n : Nat} {xs : List Value} (h : w.ownsRow base e size v n xs) (hb : base' ≤ base) : w.ownsRow base' e size v n xs :=
  ⟨h.1, h.2.imp id fun ⟨g, cap, cur, h1, h2, h3⟩ => ⟨g, cap, cur, h1, by omega, h3⟩⟩

/-- out, last = append(out, x), x: behind the two stores. -/
theorem bx_pair {W w1 : World} {n0 : Nat} {v v' u : Value} {k m : Nat} {xs ys : List Value} {tmp : Obj}
    (hv : Boxed W n0 25 v) (hu : Boxed W (n0 + 1) 3 u) (hrow : W.ownsRow (n0 + 3) 3 1 v k xs) (hn0 : n0 + 3 ≤ W.heap.size)
    (hown' : w1.ownsRow (n0 + 3) 3 1 v' m ys) (hgrow : (W.alloc tmp).grownBy w1 v.ownBlock) :
    Boxed w1 n0 25 v ∧ Boxed (w1.setCell ⟨n0, 0, none⟩ v') n0 25 v' ∧ Boxed (w1.setCell ⟨n0, 0, none⟩ v') (n0 + 1) 3 u ∧ (w1.setCell ⟨n0, 0, none⟩ v').ownsRow (n0 + 3) 3 1 v' m ys ∧
    KeepsOthers W (w1.setCell ⟨n0, 0, none⟩ v') ∧ Below n0 W (w1.setCell ⟨n0, 0, none⟩ v') := by
  obtain ⟨h1, h2, _, h4, h5⟩ := hv.appended (n₀ := n0) (show (25 : TypeId) ≠ 3 by decide) (bx_mono hrow (by omega : n0 ≤ n0 + 3)) (by omega) (Nat.le_refl _) (bx_mono hown' (by omega : n0 ≤ n0 + 3)) hgrow
  refine ⟨h1, h2, ?_, hown'.kept (grownBy_setCell' w1 n0 v') (.inr (h1.not_row (by decide) hown').symm), h4, h5⟩
  have hu1 : Boxed w1 (n0 + 1) 3 u := (hu.alloc tmp).kept hgrow (bx_not_row hu hrow (by omega))
  exact bx_set_other hu1 (by omega)

theorem bx_last {W : World} {n0 : Nat} {v u u' : Value} {k : Nat} {xs : List Value} (hv : Boxed W n0 25 v) (hu : Boxed W (n0 + 1) 3 u) (hrow : W.ownsRow (n0 + 3) 3 1 v k xs) :
    Boxed (W.setCell ⟨n0 + 1, 0, none⟩ u') n0 25 v ∧ Boxed (W.setCell ⟨n0 + 1, 0, none⟩ u') (n0 + 1) 3 u' ∧ (W.setCell ⟨n0 + 1, 0, none⟩ u').ownsRow (n0 + 3) 3 1 v k xs :=
  ⟨bx_set_other hv (by omega), hu.set u', hrow.kept (grownBy_setCell' W (n0 + 1) u') (.inr (bx_not_row hu hrow (by omega)).symm)⟩

/-- The ends of lines. -/
def endsOf (l : List Int) : List Int := feedsFrom 0 l ++ (if (feedsFrom 0 l).getLast?.getD (-1) = (l.length : Int) then [] else [(l.length : Int)])

set_option maxHeartbeats 4000000 in
set_option maxRecDepth 100000 in
theorem ends_in (A0 : Option Addr) (c0 : Nat) (l0 : List Int) (w : World) (hr0 : Kd.C (Kd.int .u8) w A0 l0.length l0) (hsm : (l0.length + 1) * 8 ≤ 140737488355328) :
    CallsIn Fence.wide 3 Tryd.prog 12 #[.slice A0 l0.length c0] w fun e w' => ∃ v, e = .returned v ∧ w'.ownsRow w.heap.size 3 1 v (endsOf l0).length ((endsOf l0).map (Value.int .i64)) ∧ Below w.heap.size w w' := by
  obtain ⟨i0, hi, hz0, hz1, hz2⟩ := info_parts info3
  have hl : (feedsFrom 0 l0).length ≤ l0.length := feedsFrom_length 0 l0
  have hml : l0.length + 1 ≤ maxLen := by unfold maxLen; omega
  have HR := Aside0.mk hr0
  clear hr0
  refine callsIn_of_wp_marks Tryd.func12 rfl trivial ?_ rfl
  simp only [Tryd.ntmps12, List.size_toArray, List.length_cons, List.length_nil, Nat.reduceAdd, Nat.reduceSub, Array.replicate_succ, Array.replicate_zero, List.push_toArray, List.append_toArray, List.nil_append, List.cons_append]
  gi_wp2_with (refine ⟨trivial, ?_⟩; (gi_at_call 23; refine (callsIn_wide.2 (feeds_calls _ _ _ _)).mono ?_; rintro e w' ⟨rfl, rfl⟩))
  have bO := Boxed.new w 25 (.slice none 0 0)
  have bL := Boxed.new (w.alloc (.cells #[.slice none 0 0] 25)) 3 (.int .i64 (-1))
  have bF := fx_new ((w.alloc (.cells #[.slice none 0 0] 25)).alloc (.cells #[.int .i64 (-1)] 3)) (.slice A0 l0.length c0) 22
  rw [World.size_alloc] at bL
  rw [World.size_alloc, World.size_alloc] at bF
  have hB0 : Below w.heap.size w (((w.alloc (.cells #[.slice none 0 0] 25)).alloc (.cells #[.int .i64 (-1)] 3)).alloc (.cells #[.slice A0 l0.length c0] 22)) := (((Below.refl _ w).alloc (Nat.le_refl _) _).alloc (by simp) _).alloc (by simp; omega) _
  have hsz0 : (((w.alloc (.cells #[.slice none 0 0] 25)).alloc (.cells #[.int .i64 (-1)] 3)).alloc (.cells #[.slice A0 l0.length c0] 22)).heap.size = w.heap.size + 3 := by simp
  refine wpIn_rangeFunc_ownF rfl (by omega) (gf := 33) (lb := #[.pointer (some ⟨w.heap.size + 1 + 1, 0, none⟩)]) rfl trivial (enters_of Tryd.func33 (by kernel_rfl) rfl)
    (feeds_stops Fence.wide (3 - 1) trivial rfl (by omega) (w.heap.size + 1 + 1) w _ A0 l0 c0 hB0 HR.out (by simp) bF.1) belowK_t (belowK_b (by simp; omega)) (Below.refl _ _) (fun _ => rfl)
    (fun pre W => ((∃ v, Boxed W w.heap.size 25 v ∧ W.ownsRow (w.heap.size + 3) 3 1 v pre.length (pre.map (Value.int .i64)) ∧ True) ∧ Boxed W (w.heap.size + 1) 3 (.int .i64 (pre.getLastD (-1)))) ∧ Below w.heap.size (((w.alloc (.cells #[.slice none 0 0] 25)).alloc (.cells #[.int .i64 (-1)] 3)).alloc (.cells #[.slice A0 l0.length c0] 22)) W)
    (fun _ _ _ => False)
    (OwnFrom.and (OwnFrom.and (Own.from (holdsRow_own (w.heap.size + 3) w.heap.size 25 3 1 (fun pre : List Int => pre.length) (fun pre => pre.map (Value.int .i64)) (fun _ _ => True)) _)
      (Own.from (fun s A B row hs hg hr => hs.kept hg (fun e' => by obtain ⟨o, ho, hc⟩ := hr _ e'.symm; rw [show A.heap[_]? = _ from hs] at ho; cases ho; cases hc)) _)) (ownFrom_below (by rw [hsz0]; omega) (by rw [hsz0]; omega)))
    (fun _ _ _ _ _ hs _ _ => hs)
    ⟨⟨⟨_, (bO.alloc _).alloc _, World.ownsRow_nil _ _ _ _, trivial⟩, bL.alloc _⟩, Below.refl _ _⟩
    (fun x => { tmps := #[.slice A0 l0.length c0, undef, .slice none 0 0, .pointer (some ⟨w.heap.size, 0, none⟩), .pointer (some ⟨w.heap.size + 1, 0, none⟩), .int .i64 x, .slice A0 l0.length c0, .func (.func 33) #[] #[.pointer (some ⟨w.heap.size + 1 + 1, 0, none⟩)], .int .i64 x, undef, undef, undef, undef, undef, undef, undef, undef, undef, undef, undef, undef, undef, undef, undef], defers := [] }) ?assign ?body ?done ?stop
  case assign =>
    intro l x W K hK
    gi_wp2
    exact hK
  case body =>
    rintro l pre x W ⟨⟨⟨v, hv, hrow, _⟩, hu⟩, hB⟩ hlt
    have hc := hv.cell
    have hW3 : w.heap.size + 3 ≤ W.heap.size := by have := hB.size; rw [hsz0] at this; exact this
    gi_wp2_with (gi_at_builtin; refine wpListIn_append_own _ rfl _ _ 25 rfl (w.heap.size + 3) 3 i0 (.int .i64 0) 1 8 Tryd.underlying25 hi hz0 hz1 hz2 rfl (by decide) _ _ _ rfl (hrow.alloc _) ⟨W.heap.size, 0, none⟩ 1 1 [.int .i64 x] rfl rfl (cell_one_new _ _ _) (by simp [Value.oneCell']) (by omega) (by omega) (by simp; omega) ?_; intro v' w1 hown' hgrow _; obtain ⟨g', cap', rfl⟩ := ownsRow_succ hown'; obtain ⟨hv1, hv2, hu2, hr2, hk2, hb2⟩ := bx_pair hv hu hrow hW3 hown' hgrow; have hc1 := hv1.cell; have hf1 := hv1.frozen; have hcu := hu2.cell; have hfu := hu2.frozen)
    obtain ⟨hv3, hu3, hr3⟩ := bx_last (u' := .int .i64 x) hv2 hu2 hr2
    exact ⟨hk2.trans (KeepsOthers.setCell _ _ _), hb2.setCell (p := ⟨w.heap.size + 1, 0, none⟩) (by simp) _, ⟨⟨_, hv3, by simpa using hr3, trivial⟩, by simpa using hu3⟩, (hB.trans hb2).setCell (p := ⟨w.heap.size + 1, 0, none⟩) (by simp) _⟩
  case done =>
    rintro D ys W hD rfl ⟨⟨⟨v, hv, hrow, _⟩, hu⟩, hB⟩ hK
    have hc := hv.cell
    have hcu := hu.cell
    have hW3 : w.heap.size + 3 ≤ W.heap.size := by have := hB.size; rw [hsz0] at this; exact this
    gi_wp2_with (gi_at_builtin; refine wpListIn_append_own _ rfl _ _ 25 rfl (w.heap.size + 3) 3 i0 (.int .i64 0) 1 8 Tryd.underlying25 hi hz0 hz1 hz2 rfl (by decide) _ _ _ rfl (hrow.alloc _) ⟨W.heap.size, 0, none⟩ 1 1 [.int .i64 (l0.length : Int)] rfl rfl (cell_one_new _ _ _) (by simp [Value.oneCell']) (by omega) (by omega) (by simp; omega) ?_; intro v' w1 hown' hgrow _; obtain ⟨g', cap', rfl⟩ := ownsRow_succ hown'; obtain ⟨hv1, hv2, hu2, hr2, hk2, hb2⟩ := bx_pair hv hu hrow hW3 hown' hgrow; have hc1 := hv1.cell; have hf1 := hv1.frozen; have hc2 := hv2.cell)
    · have hne : ¬ ((feedsFrom 0 l0).getLast?.getD (-1) = (l0.length : Int)) := by simpa using (show ((feedsFrom 0 l0).getLast?.getD (-1) != (l0.length : Int)) = true by assumption)
      have hK2 := (hk2.same _ _ hK rfl)
      refine ⟨by simp, .inl ⟨_, _, rfl, run_takeDeferred hK2, ?_⟩⟩
      refine ⟨_, results_tmp rfl _ _ _, _, rfl, ?_, (hB0.trans (hB.trans hb2)).trans (belowK_b (w := w) (Nat.le_refl _) _ D _ _ (by simp at hD; omega) hK2 rfl rfl)⟩
      have hE : endsOf l0 = feedsFrom 0 l0 ++ [(l0.length : Int)] := by rw [endsOf, if_neg hne]
      rw [hE]
      simpa using bx_mono (ownsRow_putObj hr2 _ hK2 rfl) (by omega : w.heap.size ≤ w.heap.size + 3)
    · have hne : (feedsFrom 0 l0).getLast?.getD (-1) = (l0.length : Int) := by simpa using (show ((feedsFrom 0 l0).getLast?.getD (-1) != (l0.length : Int)) = false by assumption)
      refine ⟨by simp, .inl ⟨_, _, rfl, run_takeDeferred hK, ?_⟩⟩
      refine ⟨_, results_tmp rfl _ _ _, _, rfl, ?_, (hB0.trans hB).trans (belowK_b (w := w) (Nat.le_refl _) _ D _ _ (by simp at hD; omega) hK rfl rfl)⟩
      have hE : endsOf l0 = feedsFrom 0 l0 := by rw [endsOf, if_pos hne, List.append_nil]
      rw [hE]
      exact bx_mono (ownsRow_putObj hrow _ hK rfl) (by omega : w.heap.size ≤ w.heap.size + 3)
  case stop =>
    rintro D c pre W _ _ h _
    exact h.elim
set_option linter.unusedVariables false
set_option linter.unusedSimpArgs false

theorem C_bytesIn {w : World} {A : Option Addr} {n : Nat} {xs : List Int} (h : Kd.C (Kd.int .u8) w A n xs) : Lib.BytesIn w A n xs := by
  intro hn
  obtain ⟨⟨b, o, s⟩, e, h0⟩ := Kd.at_int h 0 (Int.le_refl _) (by omega)
  have hs : s = none := by
    cases s with
    | none => rfl
    | some x =>
      simp only [World.cell?, Addr.add, Option.isSome_some, if_true] at h0
      split at h0 <;> cases h0
  subst hs
  refine ⟨b, o, e, fun i hi => ?_⟩
  obtain ⟨ad, e2, h1⟩ := Kd.at_int h (i : Int) (by omega) (by omega)
  rw [e] at e2
  obtain rfl := (Option.some.inj e2).symm
  rw [Int.toNat_natCast] at h1
  by_cases hi0 : i = 0
  · subst hi0; simpa [rd, Addr.add] using h1
  · simpa [rd, Addr.add, hi0] using h1

/-- A blank, a tab stop or a return. -/
def blankB (c : Int) : Bool := c == 32 || c == 9 || c == 13
def bytesB (l : List Int) : Bool := l.all fun x => decide (0 ≤ x) && decide (x < 256)
theorem bytesB_mem {l : List Int} (h : bytesB l = true) : ∀ x ∈ l, 0 ≤ x ∧ x < 256 := by
  intro x hx
  have := List.all_eq_true.mp h x hx
  simpa using this


theorem blank_set : ∀ x : UInt8, ([32, 9, 13] : List UInt8).contains x = blankB (x.toNat : Int) := by
  intro x
  have hd : ∀ k, k < 256 → ([32, 9, 13] : List UInt8).contains (UInt8.ofNat k) = blankB (k : Int) := of_decide_eq_true (by kernel_rfl)
  have := hd x.toNat (UInt8.toNat_lt x)
  rwa [UInt8.ofNat_toNat] at this

theorem contains_calls (b : Nat) (x : Int) (h0 : 0 ≤ x) (h1 : x < 256) (w : World) (hset : ∀ x : UInt8, w.cell? ⟨b, x.toNat, none⟩ = some (.bool (blankB (x.toNat : Int)))) :
    Calls Tryd.prog 42 #[.pointer (some ⟨b, 0, none⟩), .int .u8 x] w fun e w' => e = .returned (.bool (blankB x)) ∧ w' = w := by
  obtain ⟨k, rfl⟩ := Int.eq_ofNat_of_zero_le h0
  have hk : (UInt8.ofNat k).toNat = k := by
    rw [UInt8.toNat_ofNat']; omega
  have := Any.bytes_asciiSet_contains { Tryd.trimLays with } b (UInt8.ofNat k) _ w (hset _)
  rw [hk] at this
  exact this

set_option maxHeartbeats 4000000 in
set_option maxRecDepth 100000 in
theorem trimASCII_calls (A0 : Option Addr) (c0 : Nat) (l0 : List Int) (b : Nat) (w : World) (hr0 : Kd.C (Kd.int .u8) w A0 l0.length l0) (hc0 : l0.length ≤ c0) (hb : ∀ x ∈ l0, 0 ≤ x ∧ x < 256)
    (hset : ∀ x : UInt8, w.cell? ⟨b, x.toNat, none⟩ = some (.bool (blankB (x.toNat : Int)))) :
    Calls Tryd.prog 37 #[.slice A0 l0.length c0, .pointer (some ⟨b, 0, none⟩)] w fun e w' => (∃ A2 c2, e = .returned (.slice A2 (l0.dropWhile blankB).length c2)) ∧ w' = w := by
  obtain ⟨i0, hi0, _, hsz, _⟩ := info_parts info5
  have HS := Aside0.mk hset
  have HR := Aside0.mk hr0
  have HB := Aside0.mk hb
  clear hset hr0 hb
  generalize hm : (l0.dropWhile blankB).length = m
  have HM := Aside0.mk hm
  clear hm
  go_enter Tryd.func37, Tryd.ntmps37
  go_wp2
  go_loopg [0] l0.length (fun gk s0 wr => ∃ (y : List Int) (A : Option Addr) (c : Nat), y.length ≤ gk ∧ s0 = .slice A y.length c ∧ y.length ≤ c ∧ wr = w ∧ Aside0 (Kd.C (Kd.int .u8) w A y.length y ∧ (y.dropWhile blankB).length = m ∧ ∀ x ∈ y, 0 ≤ x ∧ x < 256))
  case atStart => exact ⟨l0, A0, c0, Nat.le_refl _, rfl, hc0, rfl, ⟨HR.out, HM.out, HB.out⟩⟩
  case round =>
    obtain ⟨y, A, c, hgk, rfl, hyc, rfl, H⟩ := hrel
    cases y with
    | nil =>
      have hm0 : m = 0 := H.out.2.1.symm
      subst hm0
      clear H
      go_wp2
      go_ret
      exact ⟨⟨_, _, rfl⟩, rfl⟩
    | cons x t =>
      obtain ⟨ad, rfl, hcell⟩ := Kd.at_int H.out.1 0 (Int.le_refl _) (by simp)
      have hx := H.out.2.2 x List.mem_cons_self
      replace hcell : wr.cell? ad = some (.int .u8 x) := by simpa [rd, Addr.add] using hcell
      have hcut := cut_from (P := Tryd.prog) 22 5 .i64 Tryd.underlying22 hi0 1 hsz (some ad) (x :: t).length c 1 (by decide) (by simp; omega)
      have hC := Kd.C_drop (m := 1) (c := c) H.out.1 (by simp) hyc
      have hcon := Aside0.mk (contains_calls b x hx.1 hx.2 wr HS.out)
      clear hx
      rw [List.length_cons] at hcut hgk hyc ⊢
      rw [show (1 : Int).toNat = 1 from rfl, Nat.add_sub_cancel] at hcut
      simp only [List.drop_succ_cons, List.drop_zero] at hC
      change Kd.C (Kd.int .u8) wr (if c = 1 then some ad else (some ad).map (·.add (1 * 1))) t.length t at hC
      generalize (if c = 1 then some ad else (some ad).map (·.add (1 * 1))) = A3 at hcut hC
      have HC := Aside0.mk hC
      clear hC
      cases hbl : blankB x with
      | false =>
        have hm0 : m = t.length + 1 := by rw [← H.out.2.1, List.dropWhile_cons, hbl]; rfl
        subst hm0
        rw [hbl] at hcon
        clear hbl H
        go_wp2_with (go_at_call 42; refine hcon.out.mono ?_; rintro e w' ⟨rfl, hw⟩; rw [hw])
        go_ret
        exact ⟨⟨_, _, rfl⟩, rfl⟩
      | true =>
        have hm1 : (t.dropWhile blankB).length = m := by rw [← H.out.2.1, List.dropWhile_cons, hbl]; rfl
        have ht : ∀ x ∈ t, 0 ≤ x ∧ x < 256 := fun z hz => H.out.2.2 z (List.mem_cons_of_mem _ hz)
        rw [hbl] at hcon
        have HT := Aside0.mk (And.intro hm1 ht)
        clear hbl H hm1 ht
        go_wp2_with (go_at_call 42; refine hcon.out.mono ?_; rintro e w' ⟨rfl, hw⟩; rw [hw])
        go_roundg t.length
        case measure => omega
        case rel => exact ⟨t, A3, c - 1, Nat.le_refl _, rfl, by omega, rfl, ⟨HC.out, HT.out.1, HT.out.2⟩⟩

set_option maxHeartbeats 4000000 in
set_option maxRecDepth 100000 in
theorem trim_calls (A0 : Option Addr) (c0 : Nat) (l0 : List Int) (w : World) (hr0 : Kd.C (Kd.int .u8) w A0 l0.length l0) (hc0 : l0.length ≤ c0) (hb : ∀ x ∈ l0, 0 ≤ x ∧ x < 256) :
    Calls Tryd.prog 27 #[.slice A0 l0.length c0, .string ⟨#[32, 9, 13]⟩] w fun e w' => (∃ A2 c2, e = .returned (.slice A2 (l0.dropWhile blankB).length c2)) ∧ Below w.heap.size w w' := by
  cases l0 with
  | nil =>
    clear hr0 hb
    go_enter Tryd.func27, Tryd.ntmps27
    go_wp2
    go_ret
    exact ⟨⟨_, _, rfl⟩, Below.refl _ _⟩
  | cons x t =>
    have hi48 : (Tryd.prog.info? 48).map (fun i => (i.zero, i.size)) = some (some (.agg (Array.replicate 256 (.bool false))), 256) := by kernel_rfl
    obtain ⟨hv27, hi27⟩ := zero_of_info hi48
    have hM := Any.bytes_makeASCIISet { Tryd.trimLays with } hv27 hi27 ⟨#[32, 9, 13]⟩ w (by decide) (by
      intro j b hj
      match j, hj with
      | 0, hj => simp at hj; subst hj; decide
      | 1, hj => simp at hj; subst hj; decide
      | 2, hj => simp at hj; subst hj; decide
      | (j + 3), hj => simp at hj)
    replace hM : Calls Tryd.prog 36 #[.string ⟨#[32, 9, 13]⟩] w fun e w' => e = .returned (.tuple #[.agg (Lib.setCells [32, 9, 13]), .bool true]) ∧ w' = w.alloc (.cells (Lib.setCells [32, 9, 13]) 48) := hM
    have hsc : (storeCells ⟨w.heap.size + 1, 0, none⟩ (Lib.setCells [32, 9, 13]).toList 0).run Tryd.prog ((w.alloc (.cells (Lib.setCells [32, 9, 13]) 48)).alloc (.cells (Array.replicate 256 (.bool false)) 48)) = .ok () ((w.alloc (.cells (Lib.setCells [32, 9, 13]) 48)).alloc (.cells (Lib.setCells [32, 9, 13]) 48)) := by
      have := run_storeCells_new (P := Tryd.prog) (w.alloc (.cells (Lib.setCells [32, 9, 13]) 48)) 48 (Array.replicate 256 (.bool false)) (Lib.setCells [32, 9, 13]) (by rw [Lib.setCells_size]; exact hi27) (by rw [Lib.setCells_size, Array.size_replicate]) (Lib.setCells_one _)
      simpa using this
    have hsz := Lib.setCells_size [32, 9, 13]
    have hB2 : Below w.heap.size w ((w.alloc (.cells (Lib.setCells [32, 9, 13]) 48)).alloc (.cells (Lib.setCells [32, 9, 13]) 48)) := ((Below.refl _ _).alloc (Nat.le_refl _) _).alloc (by simp) _
    have hT := trimASCII_calls A0 c0 (x :: t) (w.heap.size + 1) _ (Kd.C_below hr0 hB2) hc0 hb (fun x => by
      rw [World.cell?_alloc_at _ _ _ _ (by simp), Lib.setCells_at, blank_set])
    generalize ((x :: t).dropWhile blankB).length = m at hT ⊢
    have HM := Aside0.mk hM
    have HT := Aside0.mk hT
    have H2 := Aside0.mk hB2
    clear hM hT hB2 hr0 hb
    have hu0 := Tryd.sizeOf48
    go_enter Tryd.func27, Tryd.ntmps27
    go_wp2_with (first | (go_at_call 36; refine HM.out.mono ?_; rintro e w' ⟨rfl, hw⟩; rw [hw]) | (go_at_call 37; refine HT.out.mono ?_; rintro e w' ⟨⟨A2, c2, rfl⟩, hw⟩; rw [hw]))
    go_ret
    exact ⟨⟨_, _, rfl⟩, H2.out⟩

def firstOf (l : List Int) (a : Int) : Int := (l.length : Int) - (((l.drop a.toNat).dropWhile blankB).length : Int)

set_option maxHeartbeats 4000000 in
set_option maxRecDepth 100000 in
theorem first_calls (A0 : Option Addr) (c0 : Nat) (l0 : List Int) (a1 : Int) (w : World) (hr0 : Kd.C (Kd.int .u8) w A0 l0.length l0) (hc0 : l0.length ≤ c0) (h0 : 0 ≤ a1) (h1 : a1 ≤ (l0.length : Int)) (hb : ∀ x ∈ l0, 0 ≤ x ∧ x < 256) :
    Calls Tryd.prog 18 #[.slice A0 l0.length c0, .int .i64 a1] w fun e w' => e = .returned (.int .i64 (firstOf l0 a1)) ∧ Below w.heap.size w w' := by
  have hmax : l0.length ≤ 9223372036854775807 := hr0.2.1
  obtain ⟨i0, hi0, _, hsz, _⟩ := info_parts info5
  have hcut := cut_from (P := Tryd.prog) 22 5 .i64 Tryd.underlying22 hi0 1 hsz A0 l0.length c0 a1 h0 h1
  have hr := Kd.C_drop (m := a1.toNat) (c := c0) hr0 (by omega) hc0
  have hl : (l0.drop a1.toNat).length = l0.length - a1.toNat := List.length_drop
  have hbd : ∀ x ∈ l0.drop a1.toNat, 0 ≤ x ∧ x < 256 := fun x hx => hb x (List.mem_of_mem_drop hx)
  have hle : ((l0.drop a1.toNat).dropWhile blankB).length ≤ (l0.drop a1.toNat).length := (List.dropWhile_suffix _).length_le
  change Kd.C (Kd.int .u8) w (if c0 = a1.toNat then A0 else A0.map (·.add (a1.toNat * 1))) (l0.drop a1.toNat).length (l0.drop a1.toNat) at hr
  have hd := trim_calls _ (c0 - a1.toNat) _ w hr (by omega) hbd
  have hf : firstOf l0 a1 = (l0.length : Int) - (((l0.drop a1.toNat).dropWhile blankB).length : Int) := rfl
  rw [hf]
  have hfw : wrap64 ((l0.length : Int) - (((l0.drop a1.toNat).dropWhile blankB).length : Int)) = (l0.length : Int) - (((l0.drop a1.toNat).dropWhile blankB).length : Int) := by
    unfold wrap64; omega
  rw [← hl] at hcut
  generalize (if c0 = a1.toNat then A0 else A0.map (·.add (a1.toNat * 1))) = A1 at *
  generalize ((l0.drop a1.toNat).dropWhile blankB).length = m at *
  generalize (l0.drop a1.toNat).length = n at *
  generalize c0 - a1.toNat = c1 at *
  clear hf hbd hr hb hr0 hi0 hsz
  have hp := place_calls A0 c0 l0.length a1 w true (by simp [h0, h1])
  have HD := Aside0.mk hd
  clear hd hl hle
  go_enter Tryd.func18, Tryd.ntmps18
  go_wp2_with (first | (go_at_call 24; refine hp.mono ?_; rintro e w' ⟨rfl, rfl⟩) | (go_at_call 27; refine HD.out.mono ?_; rintro e w' ⟨⟨A2, c2, rfl⟩, hB⟩))
  go_ret
  rw [hfw]
  exact ⟨rfl, hB⟩

theorem first_none (A0 : Option Addr) (c0 : Nat) (l0 : List Int) (a1 : Int) (w : World) (h : (decide (a1 ≥ 0) && decide (a1 ≤ (l0.length : Int))) = false) :
    Calls Tryd.prog 18 #[.slice A0 l0.length c0, .int .i64 a1] w fun e w' => e = .returned (.int .i64 (-1)) ∧ Below w.heap.size w w' := by
  have hp := place_calls A0 c0 l0.length a1 w false h
  clear h
  go_enter Tryd.func18, Tryd.ntmps18
  go_wp2_with (go_at_call 24; refine hp.mono ?_; rintro e w' ⟨rfl, rfl⟩)
  go_ret
  exact ⟨rfl, Below.refl _ _⟩
theorem line_none (A0 : Option Addr) (c0 : Nat) (l0 : List Int) (a1 : Int) (w : World) (h : (decide (a1 ≥ 0) && decide (a1 ≤ (l0.length : Int))) = false) :
    Calls Tryd.prog 16 #[.slice A0 l0.length c0, .int .i64 a1] w fun e w' => e = .returned (.int .i64 (-1)) ∧ Below w.heap.size w w' := by
  have hp := place_calls A0 c0 l0.length a1 w false h
  clear h
  go_enter Tryd.func16, Tryd.ntmps16
  go_wp2_with (go_at_call 24; refine hp.mono ?_; rintro e w' ⟨rfl, rfl⟩)
  go_ret
  exact ⟨rfl, Below.refl _ _⟩
end Go.Proofs.YtahabdogohdjeaaDoor.Own
