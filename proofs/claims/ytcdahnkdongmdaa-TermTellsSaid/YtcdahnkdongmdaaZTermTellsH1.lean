/- Texts of the claim TermTells, merged, without what it does not use. -/
import Derived.Test.YtcdahnkdongmdaaZTermTellsX1
import Derived.Outline
import Derived.RangeFuncNested
import Derived.RangeFuncBound
import Derived.RangeFuncCalls
import Derived.RangeFuncLeaves
import Derived.Shelf.Abstract
import Derived.OwnWalkIn
import Derived.TacticsInMore
import Derived.LoopNIn
import Derived.LoopIn
import Derived.RangeFuncBox
import Derived.Ground.Names2Prog
import Derived.Ground.SlsfProg
import Derived.Shelf.Small.Wraps
import Derived.Shelf.Slices.CompactI
import Derived.Shelf.SlSortCmp.NoneTotal
import Derived.Lib.OwnBridge
import Derived.OrdersIn
import Derived.Shelf.RegionOpen
import Derived.Sort.QuietIn
namespace Go.Proofs
open Go.Shelf
def Try.lays122_ren : Go.Shelf.Ren := ⟨fun | 122 => 75 | 215 => 82 | n => n, fun | 3 => 3 | 4 => 4 | n => n, fun | n => n⟩
theorem Try.lays122 : Go.Proofs.Lays.n122 Try.prog Try.lays122_ren := {
  mixed := by kernel_rfl
  f122 := Try.func75.trans (congrArg some (by kernel_rfl))
  f215 := Try.func82.trans (congrArg some (by kernel_rfl))
  t3 := Try.underlying3
  a3 := Try.isAgg3
  z3 := Try.sizeOf3
  v3 := Try.zeroValue3
  t4 := Try.underlying4
  a4 := Try.isAgg4
  z4 := Try.sizeOf4
  v4 := Try.zeroValue4 }
open Go.RowKit in
theorem Try.cmp_Compare_int (x y : Int) (w : World) :
    Calls Try.prog 75 #[.int .i64 x, .int .i64 y] w fun e w' => e = .returned (.int .i64 (Lib.compareInt x y)) ∧ w' = w := Any.cmp_Compare_int Try.lays122 x y w
def Try.laysNm220_ren : Go.Shelf.Ren := ⟨fun | 20 => 76 | n => n, fun | 22 => 48 | 3 => 3 | 4 => 4 | 0 => 0 | n => n, fun | n => n⟩
theorem Try.laysNm220 : Go.Proofs.Lays2.n20 Try.prog Try.laysNm220_ren := {
  mixed := by kernel_rfl
  f20 := Try.func76.trans (congrArg some (by kernel_rfl))
  t0 := Try.underlying0
  a0 := Try.isAgg0
  z0 := Try.sizeOf0
  v0 := Try.zeroValue0
  t3 := Try.underlying3
  a3 := Try.isAgg3
  z3 := Try.sizeOf3
  v3 := Try.zeroValue3
  t4 := Try.underlying4
  a4 := Try.isAgg4
  z4 := Try.sizeOf4
  v4 := Try.zeroValue4
  t22 := Try.underlying48
  a22 := Try.isAgg48
  z22 := Try.sizeOf48
  v22 := Try.zeroValue48
  i3 := by kernel_rfl }
open Go.RowKit Go.Lib Go.Sort in
theorem Try.slices_Compact_int (blk off cap : Nat) (zs : List Int) (w : World) (hH : Holds (Value.int .i64) w blk off zs.toArray) (hsz : zs.length ≤ 9223372036854775807) (hcap : zs.length ≤ cap) :
    Calls Try.prog 76 #[.slice (some ⟨blk, off, none⟩) zs.length cap] w fun e w' => e = .returned (.slice (some ⟨blk, off, none⟩) (Lib.compact zs).length cap) ∧ ∃ q, w' = putRow (Value.int .i64) (Sort.ahead w q) blk off (Lib.compact zs ++ List.replicate (zs.length - (Lib.compact zs).length) 0).toArray := Any.slices_Compact_int Try.laysNm220 blk off cap zs w hH hsz hcap
def Try.laysSlF6_f45_ren : Go.Shelf.Ren := ⟨fun | 6 => 74 | 15 => 81 | 14 => 80 | 28 => 91 | 29 => 92 | 20 => 83 | 21 => 84 | 22 => 85 | 23 => 86 | 24 => 87 | 25 => 88 | 26 => 89 | 27 => 90 | 46 => 93 | 47 => 94 | 48 => 95 | 49 => 96 | 50 => 97 | 57 => 98 | n => n, fun | 22 => 48 | 24 => 3 | 25 => 95 | 3 => 3 | 39 => 57 | 0 => 0 | 53 => 110 | 55 => 112 | 4 => 4 | 46 => 104 | 45 => 103 | 50 => 45 | 5 => 5 | 9 => 9 | 66 => 113 | 70 => 117 | 76 => 119 | 77 => 38 | n => n, fun | n => n⟩
theorem Try.laysSlF6_f45 : Go.Proofs.SlLaysF.n6 Try.prog Try.laysSlF6_f45_ren := {
  mixed := by kernel_rfl
  f6 := ⟨Try.f74.name, by decide, Try.func74.trans (congrArg some (by kernel_rfl))⟩
  f14 := ⟨Try.f80.name, by decide, Try.func80.trans (congrArg some (by kernel_rfl))⟩
  f15 := Try.func81.trans (congrArg some (by kernel_rfl))
  f20 := ⟨Try.f83.name, by decide, Try.func83.trans (congrArg some (by kernel_rfl))⟩
  f21 := ⟨Try.f84.name, by decide, Try.func84.trans (congrArg some (by kernel_rfl))⟩
  f22 := ⟨Try.f85.name, by decide, Try.func85.trans (congrArg some (by kernel_rfl))⟩
  f23 := ⟨Try.f86.name, by decide, Try.func86.trans (congrArg some (by kernel_rfl))⟩
  f24 := ⟨Try.f87.name, by decide, Try.func87.trans (congrArg some (by kernel_rfl))⟩
  f25 := ⟨Try.f88.name, by decide, Try.func88.trans (congrArg some (by kernel_rfl))⟩
  f26 := ⟨Try.f89.name, by decide, Try.func89.trans (congrArg some (by kernel_rfl))⟩
  f27 := ⟨Try.f90.name, by decide, Try.func90.trans (congrArg some (by kernel_rfl))⟩
  f28 := Try.func91.trans (congrArg some (by kernel_rfl))
  f29 := Try.func92.trans (congrArg some (by kernel_rfl))
  f46 := ⟨Try.f93.name, by decide, Try.func93.trans (congrArg some (by kernel_rfl))⟩
  f47 := Try.func94.trans (congrArg some (by kernel_rfl))
  f48 := Try.func95.trans (congrArg some (by kernel_rfl))
  f49 := ⟨Try.f96.name, by decide, Try.func96.trans (congrArg some (by kernel_rfl))⟩
  f50 := ⟨Try.f97.name, by decide, Try.func97.trans (congrArg some (by kernel_rfl))⟩
  f57 := ⟨Try.f98.name, by decide, Try.func98.trans (congrArg some (by kernel_rfl))⟩
  t0 := Try.underlying0
  a0 := Try.isAgg0
  z0 := Try.sizeOf0
  v0 := Try.zeroValue0
  t3 := Try.underlying3
  a3 := Try.isAgg3
  z3 := Try.sizeOf3
  v3 := Try.zeroValue3
  t4 := Try.underlying4
  a4 := Try.isAgg4
  z4 := Try.sizeOf4
  v4 := Try.zeroValue4
  t5 := Try.underlying5
  a5 := Try.isAgg5
  z5 := Try.sizeOf5
  v5 := Try.zeroValue5
  t9 := Try.underlying9
  a9 := Try.isAgg9
  z9 := Try.sizeOf9
  v9 := Try.zeroValue9
  t22 := Try.underlying48
  a22 := Try.isAgg48
  z22 := Try.sizeOf48
  v22 := Try.zeroValue48
  a24 := Try.isAgg3
  z24 := Try.sizeOf3
  t25 := Try.underlying95
  a25 := Try.isAgg95
  z25 := Try.sizeOf95
  v25 := Try.zeroValue95
  t39 := Try.underlying57
  a39 := Try.isAgg57
  z39 := Try.sizeOf57
  v39 := Try.zeroValue57
  t45 := Try.underlying103
  a45 := Try.isAgg103
  z45 := Try.sizeOf103
  v45 := Try.zeroValue103
  t46 := Try.underlying104
  a46 := Try.isAgg104
  z46 := Try.sizeOf104
  v46 := Try.zeroValue104
  t50 := Try.underlying45
  a50 := Try.isAgg45
  z50 := Try.sizeOf45
  v50 := Try.zeroValue45
  t53 := Try.underlying110
  a53 := Try.isAgg110
  z53 := Try.sizeOf110
  v53 := Try.zeroValue110
  t55 := Try.underlying112
  a55 := Try.isAgg112
  z55 := Try.sizeOf112
  v55 := Try.zeroValue112
  t66 := Try.underlying113
  a66 := Try.isAgg113
  z66 := Try.sizeOf113
  v66 := Try.zeroValue113
  t70 := Try.underlying117
  a70 := Try.isAgg117
  z70 := Try.sizeOf117
  v70 := Try.zeroValue117
  t76 := Try.underlying119
  a76 := Try.isAgg119
  z76 := Try.sizeOf119
  v76 := Try.zeroValue119
  t77 := Try.underlying38
  a77 := Try.isAgg38
  z77 := Try.sizeOf38
  v77 := Try.zeroValue38 }
open Go.RowKit Go.Lib Go.Sort in
theorem Try.slices_SortFunc_total {α : Type} [Inhabited α] (enc : α → Value) (h1 : OneCell enc) (cf : α → α → Int) (hO : SWO (ltOf cf)) (g : Nat) (cb : Array Value) (blk off cap : Nat) (d : Array α) (w : World) (eg : ∀ args w, (callFunc g args).run Try.prog w = .ok (.enter g args) w) (hcmp : CmpLays1 Try.prog g cb enc cf blk off d.size w) (hH : Holds enc w blk off d) (hblk : blk < w.heap.size) (hsz : d.size < 4611686018427387904) (hT : ∀ x y, (ltOf cf) x y = false → (ltOf cf) y x = false → x = y) :
    Calls Try.prog 74 #[.slice (some ⟨blk, off, none⟩) d.size cap, .func (.func g) #[] cb] w fun e w' =>
      e = .returned (.tuple #[]) ∧ ∃ n os, w' = sortWorld enc w blk off n (d.toList.mergeSort fun x y => !(ltOf cf) y x).toArray os := Any.slices_SortFunc_total Try.laysSlF6_f45 enc h1 cf hO g cb blk off cap d w eg hcmp hH hblk hsz hT
end Go.Proofs
namespace Go.Proofs.Ytcdahnkdongmdaa.All
namespace Own
open Go.RowKit Go.Shelf Go.Proofs.YtcdahnkdongmdaaW.PrintWords Go.Proofs.YtcdahnkdongmdaaW.PrintLast Go.Proofs.YtcdahnkdongmdaaW.PrintMore
set_option linter.unusedVariables false
set_option linter.unusedSimpArgs false
attribute [local go_sem] Oper.semAt_some
def inR (r : S35) (n : Int) : Bool := decide (r.f0 ≤ n) && decide (n ≤ r.f1)
def hasB (l : List S35) (n : Int) : Bool := l.any fun r => inR r n
theorem one_calls (B : Nat) (lo hi n : Int) (w : World) (hB : w.cell? ⟨B, 0, none⟩ = some (.int .i64 n)) :
    Calls Try.prog 61 #[.agg #[.int .i64 lo, .int .i64 hi], .pointer (some ⟨B, 0, none⟩)] w fun e w' => e = .returned (.bool (decide (lo ≤ n) && decide (n ≤ hi))) ∧ w' = w.alloc (.cells #[.int .i64 lo, .int .i64 hi] 35) := by
  have hu31 := Try.underlying35
  have hc : (w.alloc (.cells #[.int .i64 lo, .int .i64 hi] 35)).cell? ⟨B, 0, none⟩ = some (.int .i64 n) := cell_kept hB (World.grownBy_alloc w _ none) (fun r e => by cases e)
  by_cases h1 : lo ≤ n
  · have b1 : decide (lo ≤ n) = true := decide_eq_true h1
    rw [b1, Bool.true_and]
    go_enter Try.func61, Try.ntmps61
    go_wp2
    go_ret
    exact ⟨rfl, rfl⟩
  · have b1 : decide (lo ≤ n) = false := decide_eq_false h1
    rw [b1, Bool.false_and]
    go_enter Try.func61, Try.ntmps61
    go_wp2
    go_ret
    exact ⟨rfl, rfl⟩
theorem block_lt {w : World} {a : Addr} {v : Value} (h : w.cell? a = some v) : a.block < w.heap.size := by
  rcases Nat.lt_or_ge a.block w.heap.size with h' | h'
  · exact h'
  · exfalso
    unfold World.cell? at h
    rw [Array.getElem?_eq_none h'] at h
    cases h
set_option maxHeartbeats 4000000 in
set_option maxRecDepth 100000 in
theorem idx_calls (A : Option Addr) (c : Nat) (l : List S35) (B : Nat) (n : Int) (w : World) (hr : Kd.C k35 w A l.length l) (hB : w.cell? ⟨B, 0, none⟩ = some (.int .i64 n)) :
    Calls Try.prog 70 #[.slice A l.length c, .func (.func 61) #[] #[.pointer (some ⟨B, 0, none⟩)]] w fun e w' => (∃ i : Int, e = .returned (.int .i64 i) ∧ decide (i ≥ 0) = hasB l n) ∧ Below w.heap.size w w' := by
  have hu31 := Try.underlying35
  have hmax : l.length ≤ 9223372036854775807 := hr.2.1
  have HR := Aside0.mk hr
  have HB := Aside0.mk hB
  have HL := Aside0.mk (block_lt hB)
  clear hr hB
  generalize hm : hasB l n = m
  have HM := Aside0.mk hm
  clear hm
  go_enter Try.func70, Try.ntmps70
  go_wp2
  go_loopw [8] (fun s wr => ∃ k : Nat, k ≤ l.length ∧ s = .int .i64 k ∧ Aside0 (hasB (l.drop k) n = m) ∧ Aside0 (Below w.heap.size w wr)) (fun s _ => l.length - (intOf s).toNat)
  case atStart => exact ⟨0, Nat.zero_le _, rfl, ⟨HM.out⟩, ⟨Below.refl _ _⟩⟩
  case round =>
    obtain ⟨k, hk, rfl, HK, HW⟩ := hrel
    by_cases hlt : k < l.length
    · obtain ⟨ad, rfl, hc0, hc1⟩ := at_T35 (Kd.C_below HR.out HW.out) (k : Int) (by omega) (by omega)
      rw [Int.toNat_natCast] at hc0 hc1
      have hd : l.drop k = rd_T35 l (k : Int) :: l.drop (k + 1) := by
        rw [List.drop_eq_getElem_cons hlt]
        simp [rd_T35, List.getD_eq_getElem?_getD, List.getElem?_eq_getElem hlt]
      have hcon := Aside0.mk (one_calls B (rd_T35 l (k : Int)).f0 (rd_T35 l (k : Int)).f1 n wr ((HW.out.cell (p := ⟨B, 0, none⟩) HL.out).trans HB.out))
      have hh : hasB (l.drop k) n = (inR (rd_T35 l (k : Int)) n || hasB (l.drop (k + 1)) n) := by rw [hd]; rfl
      clear hd
      cases hin : (decide ((rd_T35 l (k : Int)).f0 ≤ n) && decide (n ≤ (rd_T35 l (k : Int)).f1)) with
      | true =>
        rw [hin] at hcon
        have hm1 : m = true := by rw [← HK.out, hh, inR, hin]; rfl
        clear hin hh
        go_wp2_with (go_at_call 61; refine hcon.out.mono ?_; rintro e w' ⟨rfl, hw⟩; rw [hw])
        go_ret
        exact ⟨⟨_, rfl, by rw [hm1]; simp⟩, HW.out.alloc HW.out.size _⟩
      | false =>
        rw [hin] at hcon
        have hm1 : hasB (l.drop (k + 1)) n = m := by rw [← HK.out, hh, inR, hin]; rfl
        have HM1 := Aside0.mk hm1
        clear hin hh hm1
        go_wp2_with (go_at_call 61; refine hcon.out.mono ?_; rintro e w' ⟨rfl, hw⟩; rw [hw])
        exact ⟨⟨k + 1, by omega, by simp, ⟨HM1.out⟩, ⟨HW.out.alloc HW.out.size _⟩⟩, by simp [intOf]; omega⟩
    · have hk2 : k = l.length := by omega
      have hm0 : m = false := by rw [← HK.out, hk2, List.drop_length]; rfl
      have hge : decide ((k : Int) < (l.length : Int)) = false := decide_eq_false (by omega)
      have hge2 : decide (k < l.length) = false := decide_eq_false (by omega)
      subst hm0
      clear hk2
      go_wp2
      go_ret
      exact ⟨⟨_, rfl, rfl⟩, HW.out⟩
theorem contains_calls (A : Option Addr) (c : Nat) (l : List S35) (B : Nat) (n : Int) (w : World) (hr : Kd.C k35 w A l.length l) (hB : w.cell? ⟨B, 0, none⟩ = some (.int .i64 n)) :
    Calls Try.prog 60 #[.slice A l.length c, .func (.func 61) #[] #[.pointer (some ⟨B, 0, none⟩)]] w fun e w' => e = .returned (.bool (hasB l n)) ∧ Below w.heap.size w w' := by
  have HI := Aside0.mk (idx_calls A c l B n w hr hB)
  clear hr hB
  go_enter Try.func60, Try.ntmps60
  go_wp2_with (go_at_call 70; refine HI.out.mono ?_; rintro e w' ⟨⟨i, rfl, hi⟩, hb⟩; have HB := Aside0.mk hb; clear hb)
  go_ret
  rw [← hi]
  exact ⟨rfl, HB.out⟩
theorem has_calls (A : Option Addr) (c : Nat) (l : List S35) (n : Int) (w : World) (hr : Kd.C k35 w A l.length l) :
    Calls Try.prog 41 #[.slice A l.length c, .int .i64 n] w fun e w' => e = .returned (.bool (hasB l n)) ∧ Below w.heap.size w w' := by
  have hB := Boxed.new w 3 (.int .i64 n)
  have HC := Aside0.mk (contains_calls A c l w.heap.size n (w.alloc (.cells #[.int .i64 n] 3)) (Kd.C_alloc hr _) hB.cell)
  clear hr hB
  go_enter Try.func41, Try.ntmps41
  go_wp2_with (go_at_call 60; refine HC.out.mono ?_; rintro e w' ⟨rfl, hb⟩; have HB := Aside0.mk hb; clear hb)
  go_ret
  exact ⟨rfl, below_then ((Below.refl _ w).alloc (Nat.le_refl _) _) (by simp) HB.out⟩
end Own
end Go.Proofs.Ytcdahnkdongmdaa.All
namespace Go.Proofs.Ytcdahnkdongmdaa.All
namespace Own
open Go.RowKit Go.Shelf Go.Proofs.YtcdahnkdongmdaaW.PrintWords Go.Proofs.YtcdahnkdongmdaaW.PrintLast Go.Proofs.YtcdahnkdongmdaaW.PrintMore
set_option linter.unusedVariables false
set_option linter.unusedSimpArgs false
attribute [local go_sem] Oper.semAt_some
@[irreducible] def mxI (x y : Int) : Int := if x < y then y else x
@[irreducible] def mnI (x y : Int) : Int := if y < x then y else x
def loB (r : S35) : Int := mnI (mxI r.f0 0) 1114112
def hiB (r : S35) : Int := wrap64 (mnI (mxI r.f1 (-1)) 1114111 + 1)
def rawB (l : List S35) : List Int := 0 :: 1114112 :: l.flatMap fun r => [loB r, hiB r]
theorem info3 : (Try.prog.info? 3).map (fun i => (i.zero, i.size, i.bytes)) = some (some (.int .i64 0), 1, 8) := by kernel_rfl
theorem rawB_length (l : List S35) : (rawB l).length = 2 + 2 * l.length := by
  unfold rawB
  have : ∀ l : List S35, (l.flatMap fun r => [loB r, hiB r]).length = 2 * l.length := by
    intro l
    induction l with
    | nil => rfl
    | cons r t ih => rw [List.flatMap_cons, List.length_append, ih, List.length_cons]; simp; omega
  rw [List.length_cons, List.length_cons, this]; omega
theorem rawB_take (l : List S35) (k : Nat) (h : k < l.length) : rawB (l.take (k + 1)) = rawB (l.take k) ++ [loB (rd_T35 l (k : Int)), hiB (rd_T35 l (k : Int))] := by
  have e : l.take (k + 1) = l.take k ++ [rd_T35 l (k : Int)] := by
    rw [List.take_add_one, List.getElem?_eq_getElem h]
    simp [rd_T35, List.getElem?_eq_getElem h]
  unfold rawB
  rw [e, List.flatMap_append]
  simp
theorem max2_i (k k' : IntKind) (x y : Int) : Builtin.max2 (.int k x) (.int k' y) = pure (.int k (mxI x y)) := by rw [max2_int]; unfold mxI; rfl
theorem min2_i (k k' : IntKind) (x y : Int) : Builtin.min2 (.int k x) (.int k' y) = pure (.int k (mnI x y)) := by rw [min2_int]; unfold mnI; rfl
attribute [local go_sem] max2_i min2_i max_two min_two
theorem cell_two_new (w : World) (a b : Value) (t : TypeId) : ∀ j u, [a, b][j]? = some u → (w.alloc (.cells #[a, b] t)).cell? ((⟨w.heap.size, 0, none⟩ : Addr).add j) = some u := by
  intro j u hj
  have e : (⟨w.heap.size, 0, none⟩ : Addr).add j = ⟨w.heap.size, j, none⟩ := by
    unfold Addr.add
    split
    · next h => simp [h]
    · simp
  rw [e, World.cell?_alloc_new]
  match j, hj with
  | 0, hj => exact hj
  | 1, hj => exact hj
theorem ownsRow_lit2 (w : World) (a b : Value) (t : TypeId) : (w.alloc (.cells #[a, b] t)).ownsRow w.heap.size t 1 (.slice (some ⟨w.heap.size, 0, none⟩) 2 2) 2 [a, b] :=
  ⟨rfl, .inr ⟨w.heap.size, 2, #[a, b], rfl, Nat.le_refl _, World.alloc_heap_new w _, Nat.le_refl _, by unfold maxLen; omega, rfl, rfl⟩⟩
theorem lt_cmp (x y : Int) : Go.Proofs.ltOf Lib.compareInt x y = decide (x < y) := by
  unfold Go.Proofs.ltOf Lib.compareInt
  by_cases h : x < y
  · simp [h]
  · rw [if_neg h]
    split <;> simp [h]
theorem swo_cmp : Go.Sort.SWO (Go.Proofs.ltOf Lib.compareInt) where
  irrefl x := by rw [lt_cmp]; simp
  trans x y z h1 h2 := by rw [lt_cmp] at *; simp at *; omega
  ntrans x y z h1 h2 := by rw [lt_cmp] at *; simp at *; omega
theorem bx_sorted {W : World} {B g n : Nat} {t : TypeId} {v : Value} {d : Array Int} {os : Array Obj} (h : Boxed W B t v) (hne : B ≠ g) : Boxed (Go.Proofs.sortWorld (Value.int .i64) W g 0 n d os) B t v := by
  have hlt := h.lt
  have h' : W.heap[B]? = _ := h
  show (Go.Proofs.sortWorld (Value.int .i64) W g 0 n d os).heap[B]? = _
  unfold Go.Proofs.sortWorld Go.Sort.grow Go.Sort.putRow Go.Sort.mapBlock Go.Sort.ahead
  show ((W.heap.modify g _) ++ os)[B]? = _
  rw [Array.getElem?_append_left (by rw [Array.size_modify]; exact hlt), Array.getElem?_modify, if_neg (fun e => hne e.symm)]
  exact h'
theorem heap_grown (w : World) (os : Array Obj) (g : Nat) (h : g < w.heap.size) : (Go.Sort.grow w os).heap[g]? = w.heap[g]? := by
  show (w.heap ++ os)[g]? = w.heap[g]?
  exact Array.getElem?_append_left h
theorem own_grown {w : World} {B : Nat} {e : TypeId} {size : Nat} {v : Value} {n : Nat} {xs : List Value} (h : w.ownsRow B e size v n xs) (os : Array Obj) : (Go.Sort.grow w os).ownsRow B e size v n xs := by
  obtain ⟨hl, h0 | ⟨g, cap, cur, hv, hb, hh, r⟩⟩ := h
  · exact ⟨hl, .inl h0⟩
  · have hg : g < w.heap.size := by
      rcases Nat.lt_or_ge g w.heap.size with h1 | h1
      · exact h1
      · rw [Array.getElem?_eq_none h1] at hh; cases hh
    exact ⟨hl, .inr ⟨g, cap, cur, hv, hb, by rw [heap_grown w os g hg]; exact hh, r⟩⟩
theorem below_grown (B : Nat) (w : World) (hB : B ≤ w.heap.size) (os : Array Obj) : Below B w (Go.Sort.grow w os) :=
  ⟨rfl, rfl, rfl, by show w.heap.size ≤ (w.heap ++ os).size; rw [Array.size_append]; omega, fun j hj => heap_grown w os j (by omega)⟩
theorem bx_put {W : World} {B g n : Nat} {t : TypeId} {v : Value} {d : Array Int} (h : Boxed W B t v) (hne : B ≠ g) : Boxed (Go.Sort.putRow (Value.int .i64) (Go.Sort.ahead W n) g 0 d) B t v := by
  have h' : W.heap[B]? = _ := h
  show (Go.Sort.putRow (Value.int .i64) (Go.Sort.ahead W n) g 0 d).heap[B]? = _
  unfold Go.Sort.putRow Go.Sort.mapBlock Go.Sort.ahead
  show (W.heap.modify g _)[B]? = _
  rw [Array.getElem?_modify, if_neg (fun e => hne e.symm)]
  exact h'
def sortI (zs : List Int) : List Int := zs.toArray.toList.mergeSort fun x y => !(Go.Proofs.ltOf Lib.compareInt) y x
def bordB (l : List S35) : List Int := Lib.compact (sortI (rawB l))
theorem sort_own (W : World) (base g cap : Nat) (zs : List Int) (hrow : W.ownsRow base 3 1 (.slice (some ⟨g, 0, none⟩) zs.length cap) zs.length (zs.map (Value.int .i64))) (hb : base ≤ W.heap.size) (hz : zs.length ≤ 4000000) :
    Calls Try.prog 74 #[.slice (some ⟨g, 0, none⟩) zs.length cap, .func (.func 75) #[] #[]] W fun e w' => e = .returned (.tuple #[]) ∧ w'.ownsRow base 3 1 (.slice (some ⟨g, 0, none⟩) zs.length cap) zs.length ((sortI zs).map (Value.int .i64)) ∧ (∀ B t v, Boxed W B t v → B ≠ g → Boxed w' B t v) ∧ Below base W w' := by
  obtain ⟨g', cap', e, hbg, hlg, hnc, hcm, _, hH⟩ := Lib.holds_of_ownsRow hrow (by simp)
  injection e with e1 _ e3
  injection e1 with e1
  injection e1 with e1
  subst e1; subst e3
  refine (Try.slices_SortFunc_total (Value.int .i64) (fun _ => rfl) Lib.compareInt swo_cmp 75 #[] g 0 cap zs.toArray W (fun args w => enters_of Try.func75 (by kernel_rfl) rfl args w)
    (fun m os dk hs x y => (Try.cmp_Compare_int x y _).mono fun e w' h => ⟨h.1, 0, #[], by rw [h.2, Go.Sort.grow_empty]; rfl⟩) hH hlg (by simp; omega)
    (fun x y h1 h2 => by rw [lt_cmp] at h1 h2; simp at h1 h2; omega)).mono ?_
  rintro e w' ⟨he, n, os, hw⟩
  have hsl : (sortI zs).length = zs.length := by unfold sortI; rw [List.length_mergeSort]
  refine ⟨he, ?_, ?_, ?_⟩
  · have h1 := Lib.ownsRow_putRow (q := n) (k := zs.length) (ys := sortI zs) hrow hsl (Nat.le_refl _)
    rw [List.take_of_length_le (by omega)] at h1
    have h2 := own_grown h1 os
    rw [hw]
    exact h2
  · intro B t v hB hne
    rw [hw]
    exact bx_sorted hB hne
  · rw [hw]
    have h1 := Lib.below_putRow (enc := Value.int .i64) (q := n) (d := (sortI zs).toArray) (Below.refl base W) hbg
    exact h1.trans (below_grown base _ (Nat.le_trans hb h1.size) os)
theorem compact_own (W : World) (base g cap : Nat) (zs : List Int) (hrow : W.ownsRow base 3 1 (.slice (some ⟨g, 0, none⟩) zs.length cap) zs.length (zs.map (Value.int .i64))) (hz : zs.length ≤ 4000000) :
    Calls Try.prog 76 #[.slice (some ⟨g, 0, none⟩) zs.length cap] W fun e w' => e = .returned (.slice (some ⟨g, 0, none⟩) (Lib.compact zs).length cap) ∧ w'.ownsRow base 3 1 (.slice (some ⟨g, 0, none⟩) (Lib.compact zs).length cap) (Lib.compact zs).length ((Lib.compact zs).map (Value.int .i64)) ∧ (∀ B t v, Boxed W B t v → B ≠ g → Boxed w' B t v) ∧ Below base W w' := by
  obtain ⟨g', cap', e, hbg, hlg, hnc, hcm, _, hH⟩ := Lib.holds_of_ownsRow hrow (by simp)
  injection e with e1 _ e3
  injection e1 with e1
  injection e1 with e1
  subst e1; subst e3
  refine (Try.slices_Compact_int g 0 cap zs W hH (by omega) hnc).mono ?_
  rintro e w' ⟨he, q, hw⟩
  have hcl : (Lib.compact zs).length ≤ zs.length := by
    unfold Lib.compact Lib.compactUpTo
    rw [List.length_map]
    exact Nat.le_trans (List.length_filter_le _ _) (by simp)
  refine ⟨he, ?_, ?_, ?_⟩
  · have h1 := Lib.ownsRow_putRow (q := q) (k := (Lib.compact zs).length) (ys := Lib.compact zs ++ List.replicate (zs.length - (Lib.compact zs).length) 0) hrow (by simp; omega) hcl
    rw [List.take_left' rfl] at h1
    rw [hw]; exact h1
  · intro B t v hB hne
    rw [hw]
    exact bx_put hB hne
  · rw [hw]
    exact Lib.below_putRow (Below.refl base W) hbg
set_option maxHeartbeats 4000000 in
set_option maxRecDepth 100000 in
theorem borders_calls (A : Option Addr) (c : Nat) (l : List S35) (w : World) (hr : Kd.C k35 w A l.length l) (hl : l.length ≤ 100000) :
    Calls Try.prog 69 #[.slice A l.length c] w fun e w' => e = .returned (.func (.func 77) #[] #[.pointer (some ⟨w.heap.size + 1, 0, none⟩)]) ∧ (∃ gb cb, w'.cell? ⟨w.heap.size + 1, 0, none⟩ = some (.slice (some ⟨gb, 0, none⟩) (bordB l).length cb) ∧ Kd.C (Kd.int .i64) w' (some ⟨gb, 0, none⟩) (bordB l).length (bordB l) ∧ w.heap.size ≤ gb ∧ gb < w'.heap.size) ∧ Below w.heap.size w w' ∧ w.heap.size + 1 < w'.heap.size := by
  have hu31 := Try.underlying35
  obtain ⟨i0, hi, hz0, hz1, hz2⟩ := info_parts info3
  have HR := Aside0.mk hr
  clear hr
  go_enter Try.func69, Try.ntmps69
  go_wp2
  go_loopw [9] (fun s wr => ∃ (k : Nat) (v : Value), k ≤ l.length ∧ s = .int .i64 k ∧ Boxed wr (w.heap.size + 1) 48 v ∧ wr.ownsRow w.heap.size 3 1 v (2 + 2 * k) ((rawB (l.take k)).map (Value.int .i64)) ∧ Below w.heap.size w wr ∧ w.heap.size + 1 < wr.heap.size) (fun s _ => l.length - (intOf s).toNat)
  case atStart =>
    have b0 := Boxed.new (w.alloc (.cells #[.int .i64 0, .int .i64 1114112] 3)) 48 (.slice (some ⟨w.heap.size, 0, none⟩) 2 2)
    rw [World.size_alloc] at b0
    exact ⟨0, _, Nat.zero_le _, rfl, b0, (ownsRow_lit2 w _ _ 3).alloc _, ((Below.refl _ w).alloc (Nat.le_refl _) _).alloc (by simp) _, by simp⟩
  case round =>
    obtain ⟨k, v, hk, rfl, hv, hrow, hB, hsz⟩ := hrel
    have hc := hv.cell
    by_cases hlt : k < l.length
    · obtain ⟨ad, rfl, hc0, hc1⟩ := at_T35 (Kd.C_below HR.out hB) (k : Int) (by omega) (by omega)
      rw [Int.toNat_natCast] at hc0 hc1
      have ht := rawB_take l k hlt
      generalize hR : rd_T35 l (k : Int) = R at *
      have HT := Aside0.mk ht
      have HBl := Aside0.mk hB
      clear ht hB hR
      go_wp2_with (at_builtin; go_loud (refine wpList_append_own _ rfl _ _ 48 rfl w.heap.size 3 i0 (.int .i64 0) 1 8 Try.underlying48 hi hz0 hz1 hz2 rfl (by decide) _ _ _ rfl ((hrow.alloc _).alloc _) ⟨wr.heap.size + 1, 0, none⟩ 2 2 [.int .i64 (loB R), .int .i64 (hiB R)] rfl rfl (by have := cell_two_new (wr.alloc (.cells #[.int .i64 R.f0, .int .i64 R.f1] 35)) (.int .i64 (loB R)) (.int .i64 (hiB R)) 3; rw [World.size_alloc] at this; exact this) (by simp [Value.oneCell']) (by unfold maxLen; omega) (by omega) (by simp; omega) ?_; intro v' w1 hown' hgrow _; obtain ⟨g', cap', rfl⟩ := ownsRow_succ (k := 2 + 2 * k + 1) hown'; obtain ⟨hv1, hv2, hr2, hk2, hb2⟩ := (hv.alloc (.cells #[.int .i64 R.f0, .int .i64 R.f1] 35)).appended (n₀ := w.heap.size) (by decide) (hrow.alloc _) (by simp; omega) (by omega) hown' hgrow; have hc1' := hv1.cell; have hf1' := hv1.frozen))
      refine ⟨⟨k + 1, _, by omega, by simp, hv2, ?_, (HBl.out.alloc (by omega) _).trans hb2, ?_⟩, by simp [intOf]; omega⟩
      · rw [HT.out]
        have e : 2 + 2 * (k + 1) = 2 + 2 * k + 2 := by omega
        rw [e, List.map_append]
        exact hr2
      · have := hb2.size; rw [World.size_alloc] at this; omega
    · have hk2 : k = l.length := by omega
      subst hk2
      rw [List.take_length] at hrow
      have hge : decide ((l.length : Int) < (l.length : Int)) = false := decide_eq_false (by omega)
      have hge2 : decide (l.length < l.length) = false := decide_eq_false (by omega)
      have hlen := rawB_length l
      rw [← hlen] at hrow
      have hne : v ≠ .slice none 0 0 := by
        intro e
        rcases hrow.2 with ⟨_, h0⟩ | ⟨g, cap, cur, e2, _⟩
        · omega
        · rw [e] at e2; cases e2
      obtain ⟨g, cap, rfl, hbg, hlg, hnc, hcm, _, hH⟩ := Lib.holds_of_ownsRow hrow hne
      have hBg : w.heap.size + 1 ≠ g := by
        have := hv.not_row (by decide) hrow
        intro e; apply this; rw [e]; rfl
      have HS := Aside0.mk (sort_own wr w.heap.size g cap (rawB l) hrow hB.size (by omega))
      have HK := Aside0.mk (fun (W : World) (h : W.ownsRow w.heap.size 3 1 (.slice (some ⟨g, 0, none⟩) (sortI (rawB l)).length cap) (sortI (rawB l)).length ((sortI (rawB l)).map (Value.int .i64))) => compact_own W w.heap.size g cap (sortI (rawB l)) h (by unfold sortI; rw [List.length_mergeSort]; simp only []; omega))
      have hsl : (sortI (rawB l)).length = (rawB l).length := by unfold sortI; rw [List.length_mergeSort]
      have HBl := Aside0.mk hB
      have HV := Aside0.mk hv
      clear hrow hB hv hne hH hlen
      rw [hsl] at HK
      have hbl : (Lib.compact (sortI (rawB l))).length = (bordB l).length := rfl
      go_wp2_with (first | (go_at_call 74; go_loud (refine HS.out.mono ?_; rintro e w1 ⟨rfl, hr1, hk1, hb1⟩; have hv1 := hk1 _ _ _ HV.out hBg; have HV1 := Aside0.mk hv1; have HR1 := Aside0.mk hr1; have HB1 := Aside0.mk (HBl.out.trans hb1); have hc1' := hv1.cell; clear hr1 hk1 hb1 hv1)) | (go_at_call 76; go_loud (refine (HK.out _ HR1.out).mono ?_; rintro e w2 ⟨rfl, hr2, hk2, hb2⟩; have hv2 := hk2 _ _ _ HV1.out hBg; have HV2 := Aside0.mk hv2; have HR2 := Aside0.mk hr2; have HB2 := Aside0.mk (HB1.out.trans hb2); have hc2' := hv2.cell; have hf2' := hv2.frozen; clear hr2 hk2 hb2 hv2)))
      go_ret
      have hv3 := HV2.out.set (.slice (some ⟨g, 0, none⟩) (bordB l).length cap)
      have hr3 := HR2.out.kept (grownBy_setCell' w2 (w.heap.size + 1) (.slice (some ⟨g, 0, none⟩) (bordB l).length cap)) (.inr (by simp [Value.ownBlock]; omega))
      have hR3 : Kd.R (Kd.int .i64) 3 _ w.heap.size (fun _ => True) _ (bordB l) := Kd.R_of_own hr3 (fun _ _ => trivial)
      have hb3 := HB2.out.setCell (p := ⟨w.heap.size + 1, 0, none⟩) (by simp) (.slice (some ⟨g, 0, none⟩) (bordB l).length cap)
      exact ⟨rfl, ⟨_, _, hv3.cell, (Kd.R_reads' hR3).2.2, hbg, (hr3.lt g rfl).2⟩, hb3, hv3.lt⟩
end Own
end Go.Proofs.Ytcdahnkdongmdaa.All
namespace Go.Proofs.Ytcdahnkdongmdaa.All
namespace Own
open Go.RowKit Go.Shelf
theorem chains {F : Fence} {n : Nat} {P : Program} {md : Region.Mode} {ops : Array Oper} {Q : Exit → Act → World → Prop} {w : World} (c1 c2 : Nat → Nat) (n1 n2 f0 : Nat) (act : Nat → Nat → Act) (li : Nat → Nat → Array Bool)
    (hr : ∀ i j, i ≤ n1 → j ≤ n2 → ¬ (i = n1 ∧ j = n2) → Region.ready md ops (li i j) ≠ [] ∧ ∀ x ∈ Region.ready md ops (li i j), (i < n1 ∧ x = c1 i) ∨ (j < n2 ∧ x = c2 j))
    (hl1 : ∀ i j, i < n1 → j ≤ n2 → (li i j).setIfInBounds (c1 i) true = li (i + 1) j)
    (hl2 : ∀ i j, i ≤ n1 → j < n2 → (li i j).setIfInBounds (c2 j) true = li i (j + 1))
    (h1 : ∀ i j, i < n1 → j ≤ n2 → ∀ K : Act → World → Prop, K (act (i + 1) j) w → wpOpIn F n P ops Q (c1 i) K (act i j) w)
    (h2 : ∀ i j, i ≤ n1 → j < n2 → ∀ K : Act → World → Prop, K (act i (j + 1)) w → wpOpIn F n P ops Q (c2 j) K (act i j) w)
    (last : wpAnyIn F n P md ops Q f0 (li n1 n2) (act n1 n2) w) :
    ∀ d i j, i ≤ n1 → j ≤ n2 → (n1 - i) + (n2 - j) = d → wpAnyIn F n P md ops Q (f0 + d) (li i j) (act i j) w
  | 0, i, j, hi, hj, hd => by
    obtain rfl : i = n1 := by omega
    obtain rfl : j = n2 := by omega
    exact last
  | d + 1, i, j, hi, hj, hd => by
    obtain ⟨hne, hx⟩ := hr i j hi hj (by omega)
    refine ⟨fun h0 => absurd h0 hne, fun x hxm => ?_⟩
    rcases hx x hxm with ⟨h, rfl⟩ | ⟨h, rfl⟩
    · refine h1 i j h hj _ ?_
      rw [hl1 i j h hj]
      exact chains c1 c2 n1 n2 f0 act li hr hl1 hl2 h1 h2 last d (i + 1) j (by omega) hj (by omega)
    · refine h2 i j hi h _ ?_
      rw [hl2 i j hi h]
      exact chains c1 c2 n1 n2 f0 act li hr hl1 hl2 h1 h2 last d i (j + 1) hi (by omega) (by omega)
end Own
end Go.Proofs.Ytcdahnkdongmdaa.All
namespace Go.Proofs.Ytcdahnkdongmdaa.All
namespace Own
open Go.RowKit Go.Shelf Go.Proofs.YtcdahnkdongmdaaW.PrintWords Go.Proofs.YtcdahnkdongmdaaW.PrintLast Go.Proofs.YtcdahnkdongmdaaW.PrintMore
set_option linter.unusedVariables false
set_option linter.unusedSimpArgs false
attribute [local go_sem] Oper.semAt_some
def Keep (n0 lo hi : Nat) (A B : World) : Prop := Below n0 A B ∧ ∀ k, lo ≤ k → k < hi → B.heap[k]? = A.heap[k]?
theorem Keep.trans {n0 lo hi : Nat} {A B C : World} (h : Keep n0 lo hi A B) (k : Keep n0 lo hi B C) : Keep n0 lo hi A C := ⟨h.1.trans k.1, fun i h1 h2 => (k.2 i h1 h2).trans (h.2 i h1 h2)⟩
theorem Keep.of_below {n0 lo hi N : Nat} {A B : World} (h : Below N A B) (h0 : n0 ≤ N) (h1 : hi ≤ N) : Keep n0 lo hi A B := ⟨h.mono h0, fun k _ hk => h.block k (by omega)⟩
theorem Keep.cell {n0 lo hi : Nat} {A B : World} (h : Keep n0 lo hi A B) {b o : Nat} {v : Value} (h1 : lo ≤ b) (h2 : b < hi) (hc : A.cell? ⟨b, o, none⟩ = some v) : B.cell? ⟨b, o, none⟩ = some v :=
  (World.cell?_of_block (h.2 b h1 h2)).trans hc
theorem Keep.put {n0 lo hi : Nat} {w : World} (h0 : n0 ≤ w.heap.size) (h1 : hi ≤ w.heap.size) (W : World) (l : Nat) (o o' : Obj) (hl : w.heap.size ≤ l) (h : W.heap[l]? = some o) (hc : o.isCells = false) (hk : o.isWalk = false) : Keep n0 lo hi W (W.putObj l o') :=
  ⟨belowK_b h0 W l o o' hl h hc hk, fun i _ h2 => World.putObj_heap_other (by omega)⟩
theorem Keep.drew (n0 lo hi : Nat) (W : World) : Keep n0 lo hi W W.drew := ⟨⟨rfl, rfl, rfl, Nat.le_refl _, fun _ _ => rfl⟩, fun _ _ _ => rfl⟩
theorem drew_grown (W : World) : W.grownBy W.drew none := ⟨rfl, rfl, rfl, Nat.le_refl _, fun _ _ _ => rfl⟩
theorem yes_no {e : Ending} {A B : Prop} (h : (e = .returned (.bool true) ∧ A) ∨ (e = .returned (.bool false) ∧ B)) : ∃ bo : Bool, e = .returned (.bool bo) ∧ ((bo = true ∧ A) ∨ (bo = false ∧ B)) := by
  rcases h with ⟨h1, h2⟩ | ⟨h1, h2⟩
  · exact ⟨true, h1, .inl ⟨rfl, h2⟩⟩
  · exact ⟨false, h1, .inr ⟨rfl, h2⟩⟩
def segsB : List Int → List (Int × Int)
  | a :: b :: t => (a, b - 1) :: segsB (b :: t)
  | _ => []
theorem segsB_drop (bs : List Int) (k : Nat) (h : k + 1 < bs.length) : segsB (bs.drop k) = (rd bs (k : Int), rd bs ((k : Int) + 1) - 1) :: segsB (bs.drop (k + 1)) := by
  have e1 : bs.drop k = rd bs (k : Int) :: bs.drop (k + 1) := by
    rw [List.drop_eq_getElem_cons (by omega)]
    simp [rd, List.getElem?_eq_getElem (show k < bs.length by omega)]
  have e2 : bs.drop (k + 1) = rd bs ((k : Int) + 1) :: bs.drop (k + 2) := by
    rw [List.drop_eq_getElem_cons (by omega)]
    have : ((k : Int) + 1).toNat = k + 1 := by omega
    simp [rd, this, List.getElem?_eq_getElem (show k + 1 < bs.length by omega)]
  rw [e1, e2, segsB]
set_option maxHeartbeats 8000000 in
set_option maxRecDepth 100000 in
theorem segs_stops (F : Fence) (n : Nat) (hF : F.fn 77) (hro : F.round = none) (hn : 1 ≤ n) (n0 lo hi Bn g cb : Nat) (bs : List Int) (w0 : World)
    (hB : w0.cell? ⟨Bn, 0, none⟩ = some (.slice (some ⟨g, 0, none⟩) bs.length cb)) (hC : Kd.C (Kd.int .i64) w0 (some ⟨g, 0, none⟩) bs.length bs)
    (hBn : lo ≤ Bn ∧ Bn < hi) (hg : lo ≤ g ∧ g < hi) (h0 : n0 ≤ w0.heap.size) (h1 : hi ≤ w0.heap.size) (hbig : bs.length ≤ 4000000) (hrange : ∀ x ∈ bs, 0 ≤ x ∧ x ≤ 4000000) :
    SeqStopsK F n Try.prog 77 #[.pointer (some ⟨Bn, 0, none⟩)] (fun x : Int × Int => #[.int .i64 x.1, .int .i64 x.2]) (Keep n0 lo hi) (fun xs => xs = segsB bs) (fun pre => pre <+: segsB bs) bs.length w0 := fun l J Jx W hW hJ hJx hY h00 => by
  have hcells : ∀ i : Nat, i < bs.length → w0.cell? ⟨g, i, none⟩ = some (.int .i64 (rd bs (i : Int))) := by
    intro i hi
    obtain ⟨ad, e, hc⟩ := Kd.at_int hC (i : Int) (by omega) (by omega)
    have e2 : (⟨g, 0, none⟩ : Addr) = ad := Option.some.inj e
    subst e2
    rw [Int.toNat_natCast] at hc
    by_cases hi0 : i = 0
    · subst hi0; simpa [Addr.add] using hc
    · simpa [Addr.add, hi0] using hc
  have HC := Aside0.mk hcells
  have HB := Aside0.mk hB
  have HR := Aside0.mk hrange
  have HW := Aside0.mk (Keep.of_below (lo := lo) hW h0 h1)
  have HJ := Aside0.mk hJ
  clear hcells hB hC hW hrange hJ hJx
  refine callsIn_of_wp Try.func77 rfl hF ?_ hro
  simp only [Try.ntmps77, List.size_toArray, List.length_cons, List.length_nil, Nat.reduceAdd, Nat.reduceSub, Array.replicate_succ, Array.replicate_zero, List.push_toArray, List.append_toArray, List.nil_append, List.cons_append]
  gi_wp2
  gi_loopw [3] (fun i wr => ∃ (k : Nat) (pre : List (Int × Int)), k ≤ bs.length ∧ i = .int .i64 ((k : Int) + 1) ∧ pre.length ≤ k ∧ Aside0 (segsB bs = pre ++ segsB (bs.drop k)) ∧ J pre wr ∧ Aside0 (Keep n0 lo hi w0 wr))
    (fun i _ => bs.length + 1 - (intOf i).toNat)
  case atStart => exact ⟨0, [], Nat.zero_le _, rfl, Nat.le_refl _, ⟨rfl⟩, h00, HW⟩
  case round =>
    obtain ⟨k, pre, hk, rfl, hpl, hpre, hJs, HK⟩ := hrel
    have hcB := HK.out.cell hBn.1 hBn.2 HB.out
    by_cases hlt : k + 1 < bs.length
    · have hc0 := HK.out.cell hg.1 hg.2 (HC.out k (by omega))
      have hc1 := HK.out.cell hg.1 hg.2 (HC.out (k + 1) hlt)
      have hd := segsB_drop bs k hlt
      have hpre2 := Aside0.mk (show segsB bs = (pre ++ [(rd bs (k : Int), rd bs ((k : Int) + 1) - 1)]) ++ segsB (bs.drop (k + 1)) by
        rw [hpre.out, hd, List.append_assoc]; rfl)
      clear hd hpre
      have hmix : Try.prog.follows .mixedOrders = true := by kernel_rfl
      have hJd : J pre wr.drew := HJ.out _ _ _ none hJs (drew_grown wr) (fun r e => by cases e)
      obtain ⟨fn, tmps, assign, body, hy0, hR⟩ := hY pre (rd bs (k : Int), rd bs ((k : Int) + 1) - 1) wr.drew hJd (by omega)
      have hrg := HR.out (rd bs ((k : Int) + 1)) (by
        have e : rd bs ((k : Int) + 1) = bs[k + 1] := by
          have : ((k : Int) + 1).toNat = k + 1 := by omega
          simp [rd, this, List.getElem?_eq_getElem hlt]
        rw [e]; exact List.getElem_mem hlt)
      have hy : (Instr.yield l #[.int .i64 (rd bs (k : Int)), .int .i64 (IntKind.i64.wrap (rd bs ((k : Int) + 1) - 1))]).run Try.prog wr.drew = .ok (.round l fn tmps assign body) wr.drew := by
        rw [show IntKind.i64.wrap (rd bs ((k : Int) + 1) - 1) = rd bs ((k : Int) + 1) - 1 by rw [IntKind.wrap_i64]; omega]
        exact hy0
      have hk0 : k < bs.length := by omega
      have hmax : bs.length ≤ 9223372036854775807 := by omega
      have hk8 : IntKind.i64.wrap ((k : Int) + 1 - 1) = (k : Int) := by rw [IntKind.wrap_i64]; omega
      have hk9 : IntKind.i64.wrap (k : Int) = (k : Int) := by rw [IntKind.wrap_i64]; omega
      have hk1 : (k : Int) < (bs.length : Int) := by omega
      have hk2 : (k : Int) + 1 < (bs.length : Int) := by omega
      have hk3 : (0 : Int) ≤ (k : Int) := by omega
      have hk4 : (0 : Int) ≤ (k : Int) + 1 := by omega
      have hk5 : ((k : Int) + 1).toNat = k + 1 := by omega
      have hk6 : wrap64 ((k : Int) + 1 - 1) = (k : Int) := by unfold wrap64; omega
      clear hy0 hrg hJd
      gi_wp2
      generalize hQ : (Exit.then _ _ : Exit → Act → World → Prop) = Q
      have key : ∀ (bo : Bool) (W3 : World), (bo = true ∧ J (pre ++ [(rd bs (k : Int), rd bs ((k : Int) + 1) - 1)]) W3 ∧ Keep n0 lo hi wr.drew W3) ∨ (bo = false ∧ Jx (pre ++ [(rd bs (k : Int), rd bs ((k : Int) + 1) - 1)]) W3) →
          Q .normal { tmps := #[.func (.yield l) #[] #[], .pointer (some ⟨Bn, 0, none⟩), undef, .int .i64 ((k : Int) + 1), .int .i64 ((k : Int) + 1), .slice (some ⟨g, 0, none⟩) bs.length cb, .int .i64 (bs.length : Int), .bool true, u8, u9, .func (.yield l) #[] #[], .slice (some ⟨g, 0, none⟩) bs.length cb, .int .i64 ((k : Int) + 1), .int .i64 (k : Int), .pointer (some ⟨g, k, none⟩), .int .i64 (rd bs (k : Int)), .slice (some ⟨g, 0, none⟩) bs.length cb, .int .i64 ((k : Int) + 1), .pointer (some ⟨g, k + 1, none⟩), .int .i64 (rd bs ((k : Int) + 1)), .int .i64 (IntKind.i64.wrap (rd bs ((k : Int) + 1) - 1)), .bool bo, .bool (!bo)], defers := [] } W3 := by
        intro bo W3 hbo
        rw [← hQ]
        clear hQ
        rcases hbo with ⟨rfl, hJ3, hk3⟩ | ⟨rfl, hJx3⟩
        · gi_wp2
          exact ⟨⟨k + 1, _, by omega, by simp, by simp; omega, hpre2, hJ3, ⟨(HK.out.trans (Keep.drew n0 lo hi wr)).trans hk3⟩⟩, by simp [intOf]; omega⟩
        · gi_wp2
          refine bodyPost_ret (results_none rfl _ _ _) rfl ?_
          exact ⟨⟨_, rfl⟩, .inr ⟨_, ⟨_, hpre2.out.symm⟩, hJx3⟩⟩
      have KEY := Aside0.mk key
      have hQp : ∀ c (a : Act) dst v w, Q (.panic c) (a.put dst v) w → Q (.panic c) a w := by rw [← hQ]; intro c a dst v w h; cases dst <;> exact h
      clear hQ key
      refine wpIn_region_any hmix ?_
      refine wpAnyIn_take (i := 0) (v := .func (.yield l) #[] #[]) hro rfl (by kernel_rfl) (by kernel_rfl) (by kernel_rfl) (fun _ _ _ h => hQp _ _ _ _ _ h) ⟨Or.inl ⟨by rfl, by intro w; go_simp⟩, fun _ => rfl⟩ ?_
      refine wpAnyIn_take (i := 2) (v := .int .i64 ((k : Int) + 1)) hro rfl (by kernel_rfl) (by kernel_rfl) (by kernel_rfl) (fun _ _ _ h => hQp _ _ _ _ _ h) ⟨Or.inl ⟨by rfl, by intro w; go_simp⟩, fun _ => rfl⟩ ?_
      refine wpAnyIn_take (i := 3) (v := .int .i64 (k : Int)) hro rfl (by kernel_rfl) (by kernel_rfl) (by kernel_rfl) (fun _ _ _ h => hQp _ _ _ _ _ h) ⟨Or.inl ⟨by rfl, by intro w; go_simp⟩, fun _ => rfl⟩ ?_
      refine wpAnyIn_take (i := 7) (v := .int .i64 ((k : Int) + 1)) hro rfl (by kernel_rfl) (by kernel_rfl) (by kernel_rfl) (fun _ _ _ h => hQp _ _ _ _ _ h) ⟨Or.inl ⟨by rfl, by intro w; go_simp⟩, fun _ => rfl⟩ ?_
      have hcBd : wr.drew.cell? ⟨Bn, 0, none⟩ = some (.slice (some ⟨g, 0, none⟩) bs.length cb) := hcB
      have hc0d : wr.drew.cell? ⟨g, k, none⟩ = some (.int .i64 (rd bs (k : Int))) := hc0
      have hc1d : wr.drew.cell? ⟨g, k + 1, none⟩ = some (.int .i64 (rd bs ((k : Int) + 1))) := hc1
      refine chains (fun i => [1, 4, 5].getD i 0) (fun j => [6, 8, 9, 10].getD j 0) 3 4 2
        (fun i j => { tmps := #[.func (.yield l) #[] #[], .pointer (some ⟨Bn, 0, none⟩), undef, .int .i64 ((k : Int) + 1), .int .i64 ((k : Int) + 1), .slice (some ⟨g, 0, none⟩) bs.length cb, .int .i64 (bs.length : Int), .bool true, u8, u9, .func (.yield l) #[] #[], (if 1 ≤ i then .slice (some ⟨g, 0, none⟩) bs.length cb else u11), .int .i64 ((k : Int) + 1), .int .i64 (k : Int), (if 2 ≤ i then .pointer (some ⟨g, k, none⟩) else u14), (if 3 ≤ i then .int .i64 (rd bs (k : Int)) else u15), (if 1 ≤ j then .slice (some ⟨g, 0, none⟩) bs.length cb else u16), .int .i64 ((k : Int) + 1), (if 2 ≤ j then .pointer (some ⟨g, k + 1, none⟩) else u18), (if 3 ≤ j then .int .i64 (rd bs ((k : Int) + 1)) else u19), (if 4 ≤ j then .int .i64 (IntKind.i64.wrap (rd bs ((k : Int) + 1) - 1)) else u20), u21, u22], defers := [] })
        (fun i j => #[true, decide (1 ≤ i), true, true, decide (2 ≤ i), decide (3 ≤ i), decide (1 ≤ j), true, decide (2 ≤ j), decide (3 ≤ j), decide (4 ≤ j), false, false]) ?hr ?hl1 ?hl2 ?h1 ?h2 ?last 7 0 0 (Nat.zero_le _) (Nat.zero_le _) rfl
      case hl1 =>
        intro i j hi hj
        match i, hi with
        | 0, _ => rfl
        | 1, _ => rfl
        | 2, _ => rfl
      case hl2 =>
        intro i j hi hj
        match j, hj with
        | 0, _ => rfl
        | 1, _ => rfl
        | 2, _ => rfl
        | 3, _ => rfl
      case hr =>
        intro i j hi hj hn
        match i, j, hi, hj, hn with
        | 0, 0, _, _, _ => exact of_decide_eq_true (by kernel_rfl)
        | 0, 1, _, _, _ => exact of_decide_eq_true (by kernel_rfl)
        | 0, 2, _, _, _ => exact of_decide_eq_true (by kernel_rfl)
        | 0, 3, _, _, _ => exact of_decide_eq_true (by kernel_rfl)
        | 0, 4, _, _, _ => exact of_decide_eq_true (by kernel_rfl)
        | 1, 0, _, _, _ => exact of_decide_eq_true (by kernel_rfl)
        | 1, 1, _, _, _ => exact of_decide_eq_true (by kernel_rfl)
        | 1, 2, _, _, _ => exact of_decide_eq_true (by kernel_rfl)
        | 1, 3, _, _, _ => exact of_decide_eq_true (by kernel_rfl)
        | 1, 4, _, _, _ => exact of_decide_eq_true (by kernel_rfl)
        | 2, 0, _, _, _ => exact of_decide_eq_true (by kernel_rfl)
        | 2, 1, _, _, _ => exact of_decide_eq_true (by kernel_rfl)
        | 2, 2, _, _, _ => exact of_decide_eq_true (by kernel_rfl)
        | 2, 3, _, _, _ => exact of_decide_eq_true (by kernel_rfl)
        | 2, 4, _, _, _ => exact of_decide_eq_true (by kernel_rfl)
        | 3, 0, _, _, _ => exact of_decide_eq_true (by kernel_rfl)
        | 3, 1, _, _, _ => exact of_decide_eq_true (by kernel_rfl)
        | 3, 2, _, _, _ => exact of_decide_eq_true (by kernel_rfl)
        | 3, 3, _, _, _ => exact of_decide_eq_true (by kernel_rfl)
        | 3, 4, _, _, hn => exact absurd ⟨rfl, rfl⟩ hn
        | i + 4, j, hi, _, _ => omega
        | 0, j + 5, _, hj, _ => omega
        | 1, j + 5, _, hj, _ => omega
        | 2, j + 5, _, hj, _ => omega
        | 3, j + 5, _, hj, _ => omega
      case h1 =>
        intro i j hi hj K hK
        match i, hi with
        | 0, _ => refine wpOpIn_step rfl (fun K' hK' => ?_); go_simp; exact hK' _ _ hK
        | 1, _ => refine wpOpIn_step rfl (fun K' hK' => ?_); go_simp; exact hK' _ _ hK
        | 2, _ => refine wpOpIn_step rfl (fun K' hK' => ?_); go_simp; exact hK' _ _ hK
      case h2 =>
        intro i j hi hj K hK
        match j, hj with
        | 0, _ => refine wpOpIn_step rfl (fun K' hK' => ?_); go_simp; exact hK' _ _ hK
        | 1, _ => refine wpOpIn_step rfl (fun K' hK' => ?_); go_simp; exact hK' _ _ hK
        | 2, _ => refine wpOpIn_step rfl (fun K' hK' => ?_); go_simp; exact hK' _ _ hK
        | 3, _ => refine wpOpIn_step rfl (fun K' hK' => ?_); go_simp; exact hK' _ _ hK
      case last =>
        have HRR := Aside0.mk hR
        clear hR
        refine wpAnyIn_ready (rs := [11]) (by kernel_rfl) (by simp) ?_
        refine AllReadyIn.cons rfl (fun K hK => ?_) AllReadyIn.nil
        go_simp
        refine HRR.out.mono ?_
        intro e W3 hres
        obtain ⟨bo, rfl, hbo⟩ := yes_no hres
        refine hK _ _ ?_
        refine wpAnyIn_ready (rs := [12]) (by kernel_rfl) (by simp) ?_
        refine AllReadyIn.cons rfl (fun K' hK' => ?_) AllReadyIn.nil
        go_simp
        refine hK' _ _ ?_
        refine wpAnyIn_done (by kernel_rfl) ?_ _
        exact KEY.out bo W3 hbo
    · have hk2 : segsB (bs.drop k) = [] := by
        have hl : (bs.drop k).length ≤ 1 := by rw [List.length_drop]; omega
        match hb : bs.drop k, hl with
        | [], _ => rfl
        | [x], _ => rfl
        | x :: y :: u, h => simp at h
      have hpre2 := Aside0.mk (show segsB bs = pre by rw [hpre.out, hk2, List.append_nil])
      have hge : decide ((k : Int) + 1 < (bs.length : Int)) = false := decide_eq_false (by omega)
      clear hk2 hpre
      gi_wp2
      go_end0
      exact ⟨⟨_, rfl⟩, .inl ⟨pre, hpre2.out.symm, hJs⟩⟩
end Own
end Go.Proofs.Ytcdahnkdongmdaa.All
namespace Go.Proofs.Ytcdahnkdongmdaa.All
namespace Own
open Go.RowKit Go.Shelf
theorem compact_mem (zs : List Int) (x : Int) (h : x ∈ Lib.compact zs) : x ∈ zs := by
  unfold Lib.compact Lib.compactUpTo at h
  obtain ⟨i, hi, rfl⟩ := List.mem_map.mp h
  have hi2 := List.mem_range.mp (List.mem_filter.mp hi).1
  rw [getElem!_pos _ _ (by simpa using hi2)]
  simp
theorem sortI_mem (zs : List Int) (x : Int) : x ∈ sortI zs ↔ x ∈ zs := by
  unfold sortI; rw [List.mem_mergeSort]
theorem loB_range (r : S35) : 0 ≤ loB r ∧ loB r ≤ 1114112 := by
  unfold loB mnI mxI
  split <;> split <;> omega
theorem hiB_range (r : S35) : 0 ≤ hiB r ∧ hiB r ≤ 1114112 := by
  unfold hiB mnI mxI wrap64
  split <;> split <;> omega
theorem bordB_range (l : List S35) : ∀ x ∈ bordB l, 0 ≤ x ∧ x ≤ 1114112 := by
  intro x hx
  have h := (sortI_mem _ _).mp (compact_mem _ _ hx)
  unfold rawB at h
  rcases List.mem_cons.mp h with rfl | h
  · omega
  rcases List.mem_cons.mp h with rfl | h
  · omega
  obtain ⟨r, _, hr⟩ := List.mem_flatMap.mp h
  have h1 := loB_range r
  have h2 := hiB_range r
  simp at hr
  omega
theorem bordB_length (l : List S35) : (bordB l).length ≤ 2 + 2 * l.length := by
  have h1 := rawB_length l
  have h2 : (sortI (rawB l)).length = (rawB l).length := by unfold sortI; rw [List.length_mergeSort]
  have h3 : (bordB l).length ≤ (sortI (rawB l)).length := by
    unfold bordB Lib.compact Lib.compactUpTo
    rw [List.length_map]
    exact Nat.le_trans (List.length_filter_le _ _) (by simp)
  omega
theorem segsB_length : ∀ bs : List Int, (segsB bs).length ≤ bs.length
  | [] => Nat.le_refl _
  | [_] => by simp [segsB]
  | a :: b :: t => by
    have := segsB_length (b :: t)
    rw [segsB, List.length_cons, List.length_cons]; omega
end Own
end Go.Proofs.Ytcdahnkdongmdaa.All
