/- Texts of the claim TermTells, merged, without what it does not use. -/
import Derived.Test.YtcdahnkdongmdaaZTermTellsH2
import Derived.Sort.CutIn
import Derived.Sort.QuietIn
namespace Go.Proofs.Ytcdahnkdongmdaa.All
namespace Own
open Go.RowKit Go.Shelf Go.Proofs.YtcdahnkdongmdaaW.PrintWords Go.Proofs.YtcdahnkdongmdaaW.PrintLast Go.Proofs.YtcdahnkdongmdaaW.PrintMore
set_option linter.unusedVariables false
set_option linter.unusedSimpArgs false
attribute [local go_sem] Oper.semAt_some
set_option maxHeartbeats 1000000 in
set_option maxRecDepth 100000 in
theorem pick43_in (b5 b7 b8 : Nat) (F : Int → Bool) (A : Option Addr) (c : Nat) (l : List S35) (w : World) (hr : Kd.C k35 w A l.length l) (hl : l.length ≤ 100000)
    (hIs : ∀ (n : Int) (W : World), Below w.heap.size w W → Calls Try.prog 62 #[.int .i64 n, .pointer (some ⟨b5, 0, none⟩), .pointer (some ⟨b7, 0, none⟩), .pointer (some ⟨b8, 0, none⟩)] W fun e w' => e = .returned (.bool (F n)) ∧ Below W.heap.size W w') :
    CallsIn Fence.wide 5 Try.prog 59 #[.func (.func 62) #[] #[.pointer (some ⟨b5, 0, none⟩), .pointer (some ⟨b7, 0, none⟩), .pointer (some ⟨b8, 0, none⟩)], .slice A l.length c] w fun e w' => ∃ v, e = .returned v ∧ w'.ownsRow w.heap.size 35 2 v (pickB F l).length (flatB (pickB F l)) ∧ Below w.heap.size w w' := by
  have hu31 := Try.underlying35
  obtain ⟨i0, hi, hz0, hz1, hz2⟩ := info_parts info31'
  have HBr := Aside0.mk (fun W (h : Kd.C k35 W A l.length l) => borders_calls A c l W h hl)
  have HR := Aside0.mk hr
  have HI := Aside0.mk hIs
  clear hr hIs
  refine callsIn_of_wp_marks Try.func59 rfl trivial ?_ rfl
  simp only [Try.ntmps59, List.size_toArray, List.length_cons, List.length_nil, Nat.reduceAdd, Nat.reduceSub, Array.replicate_succ, Array.replicate_zero, List.push_toArray, List.append_toArray, List.nil_append, List.cons_append]
  gi_wp2_with (refine ⟨trivial, ?_⟩; (gi_at_call 69; refine (callsIn_wide.2 (HBr.out _ (Kd.C_alloc (Kd.C_alloc HR.out _) _))).mono ?_; rintro e w1 ⟨rfl, ⟨gb, cb, hbx, hbc, hg1, hg2⟩, hB1, hs1⟩))
  have b0 := Boxed.new w 55 (.func (.func 62) #[] #[.pointer (some ⟨b5, 0, none⟩), .pointer (some ⟨b7, 0, none⟩), .pointer (some ⟨b8, 0, none⟩)])
  have b1 := Boxed.new (w.alloc (.cells #[.func (.func 62) #[] #[.pointer (some ⟨b5, 0, none⟩), .pointer (some ⟨b7, 0, none⟩), .pointer (some ⟨b8, 0, none⟩)]] 55)) 22 (.slice none 0 0)
  rw [World.size_alloc] at b1
  have hB0 : Below w.heap.size w ((w.alloc (.cells #[.func (.func 62) #[] #[.pointer (some ⟨b5, 0, none⟩), .pointer (some ⟨b7, 0, none⟩), .pointer (some ⟨b8, 0, none⟩)]] 55)).alloc (.cells #[.slice none 0 0] 22)) := ((Below.refl _ w).alloc (Nat.le_refl _) _).alloc (by simp) _
  have hsz : ((w.alloc (.cells #[.func (.func 62) #[] #[.pointer (some ⟨b5, 0, none⟩), .pointer (some ⟨b7, 0, none⟩), .pointer (some ⟨b8, 0, none⟩)]] 55)).alloc (.cells #[.slice none 0 0] 22)).heap.size = w.heap.size + 2 := by simp
  rw [hsz] at hB1 hs1 hbx hg1
  have c0 : Boxed w1 w.heap.size 55 (.func (.func 62) #[] #[.pointer (some ⟨b5, 0, none⟩), .pointer (some ⟨b7, 0, none⟩), .pointer (some ⟨b8, 0, none⟩)]) := (hB1.block w.heap.size (by omega)).trans (b0.alloc _)
  have c1 : Boxed w1 (w.heap.size + 1) 22 (.slice none 0 0) := (hB1.block (w.heap.size + 1) (by omega)).trans b1
  have hBw : Below w.heap.size w w1 := hB0.trans (hB1.mono (by omega))
  refine wpIn_rangeFunc_ownF rfl (by omega) (gf := 77) (lb := #[.pointer (some ⟨w.heap.size + 2 + 1, 0, none⟩)]) rfl trivial (enters_of Try.func77 (by kernel_rfl) rfl)
    (segs_stops Fence.wide (5 - 1) trivial rfl (by omega) w.heap.size (w.heap.size + 2) w1.heap.size (w.heap.size + 2 + 1) gb cb (bordB l) w1 hbx hbc ⟨by omega, hs1⟩ ⟨hg1, hg2⟩ (by omega) (Nat.le_refl _) (by have := bordB_length l; omega) (fun x hx => by have := bordB_range l x hx; omega))
    (fun h k => Keep.trans h k) (Keep.put (by omega) (Nat.le_refl _)) (Below.refl _ _) (fun _ => rfl)
    (fun pre W => (((∃ v, Boxed W (w.heap.size + 1) 22 v ∧ W.ownsRow w1.heap.size 35 2 v (pre.foldl (putB F) []).length (flatB (pre.foldl (putB F) [])) ∧ True) ∧ Boxed W w.heap.size 55 (.func (.func 62) #[] #[.pointer (some ⟨b5, 0, none⟩), .pointer (some ⟨b7, 0, none⟩), .pointer (some ⟨b8, 0, none⟩)])) ∧ Below w.heap.size w W) ∧ w1.heap.size ≤ W.heap.size)
    (fun _ _ _ => False)
    (OwnFrom.and (OwnFrom.and (OwnFrom.and (Own.from (holdsRow_own w1.heap.size (w.heap.size + 1) 22 35 2 (fun pre : List (Int × Int) => (pre.foldl (putB F) []).length) (fun pre => flatB (pre.foldl (putB F) [])) (fun _ _ => True)) _)
      (Own.from (fun s A B row hs hg hr => hs.kept hg (fun e' => by obtain ⟨o, ho, hc⟩ := hr _ e'.symm; rw [show A.heap[_]? = _ from hs] at ho; cases ho; cases hc)) _)) (ownFrom_below (by omega) (by omega)))
      (fun s A B row hs hg hr => Nat.le_trans hs hg.size))
    (fun _ _ _ _ _ hs _ _ => hs)
    ⟨⟨⟨⟨_, c1, World.ownsRow_nil _ _ _ _, trivial⟩, c0⟩, hBw⟩, Nat.le_refl _⟩
    (fun x => { tmps := #[.func (.func 62) #[] #[.pointer (some ⟨b5, 0, none⟩), .pointer (some ⟨b7, 0, none⟩), .pointer (some ⟨b8, 0, none⟩)], .slice A l.length c, .pointer (some ⟨w.heap.size, 0, none⟩), undef, .slice none 0 0, .pointer (some ⟨w.heap.size + 1, 0, none⟩), .int .i64 x.1, .int .i64 x.2, undef, .slice A l.length c, .func (.func 77) #[] #[.pointer (some ⟨w.heap.size + 2 + 1, 0, none⟩)], .int .i64 x.1, .int .i64 x.2, undef, undef, undef, undef, undef, undef, undef, undef, undef, undef, undef, undef, undef, undef, undef, undef, undef, undef, undef, undef, undef, undef, undef, undef, undef, undef, undef, undef, undef, undef, undef], defers := [] }) ?assign ?body ?done ?stop
  case assign =>
    intro l x W K hK
    gi_wp2
    exact hK
  case body =>
    have hS0 := Aside0.mk (show w.heap.size + 2 ≤ w1.heap.size by omega)
    clear hbx hbc hg1 hg2 hB1 b0 b1 hB0 hsz c0 c1 hBw HBr HR hs1
    clear gb cb
    rintro lr pre x W ⟨⟨⟨⟨v, hv, hrow, _⟩, hb0⟩, hB⟩, hsz2⟩ hlt
    have hd1 : 1 ≤ 5 - 1 - 1 := by omega
    have hc := hv.cell
    have hcb := hb0.cell
    have HX := Aside0.mk (HI.out x.1 W hB)
    have hfold := Aside0.mk (show (pre ++ [x]).foldl (putB F) [] = putB F (pre.foldl (putB F) []) x by rw [List.foldl_append]; rfl)
    cases hF : F x.1 with
    | false =>
      rw [hF] at HX
      gi_wp2_with (refine ⟨trivial, ?_⟩; gi_at_call 62; go_loud (refine (CallsIn.inRound lr (callsIn_wide.2 HX.out)).mono ?_; rintro e w2 ⟨rfl, hB2⟩))
      have e : (pre ++ [x]).foldl (putB F) [] = pre.foldl (putB F) [] := by rw [hfold.out, putB, if_neg (by rw [hF]; decide)]
      exact ⟨others_later hB2, Keep.of_below hB2 hB.size hsz2, ⟨⟨⟨⟨v, bx_later hv hB2, by rw [e]; exact own_later hrow hB2, trivial⟩, bx_later hb0 hB2⟩, hB.trans (hB2.mono hB.size)⟩, Nat.le_trans hsz2 hB2.size⟩⟩
    | true =>
      rw [hF] at HX
      have hbl := bordB_length l
      have hol := fold_length F pre []
      rw [List.length_nil, Nat.zero_add] at hol
      have hput : (pre ++ [x]).foldl (putB F) [] = (match (pre.foldl (putB F) []).getLast? with
        | some r => if r.f1 = wrap64 (x.1 - 1) then (pre.foldl (putB F) []).dropLast ++ [⟨r.f0, x.2⟩] else pre.foldl (putB F) [] ++ [⟨x.1, x.2⟩]
        | none => [⟨x.1, x.2⟩]) := by rw [hfold.out]; unfold putB; rw [if_pos hF]; rfl
      have HPUT := Aside0.mk hput
      clear hput hfold hF
      generalize hout : pre.foldl (putB F) [] = out at *
      cases hl2 : out.getLast? with
      | none =>
        have hnil : out = [] := List.getLast?_eq_none_iff.mp hl2
        subst hnil
        rw [hl2] at HPUT
        obtain ⟨Ao, co, rfl⟩ : ∃ Ao co, v = .slice Ao 0 co := by
          rcases hrow.2 with ⟨h, _⟩ | ⟨g, cap, cur, h, _⟩
          · exact ⟨_, _, h⟩
          · exact ⟨_, _, h⟩
        have HV := Aside0.mk hv
        have HROW := Aside0.mk hrow
        have HB := Aside0.mk hB
        have HB0 := Aside0.mk hb0
        clear hv hrow hB hb0
        gi_wp2_with (first
          | (refine ⟨trivial, ?_⟩; gi_at_call 62; go_loud (refine (CallsIn.inRound lr (callsIn_wide.2 HX.out)).mono ?_; rintro e w2 ⟨rfl, hB2⟩; have HB2 := Aside0.mk hB2; have hv2 := bx_later HV.out hB2; have hc2 := hv2.cell; have HV2 := Aside0.mk hv2; have HROW2 := Aside0.mk (own_later HROW.out hB2); have hsz3 : w1.heap.size ≤ w2.heap.size := Nat.le_trans hsz2 hB2.size; clear hB2 hv2))
          | (gi_at_builtin; go_loud (refine wpListIn_append_own _ rfl _ _ 22 rfl w1.heap.size 35 i0 (.agg #[.int .i64 0, .int .i64 0]) 2 16 Try.underlying22 hi hz0 hz1 hz2 rfl (by decide) _ _ _ rfl (HROW2.out.alloc _) ⟨w2.heap.size, 0, none⟩ 1 1 [.int .i64 x.1, .int .i64 x.2] rfl rfl (cell_two_new _ _ _ _) (by simp [Value.oneCell']) (by unfold maxLen; simp) (by simp) (by simp; omega) ?_; intro v' w3 hown' hgrow _; obtain ⟨g', cap', rfl⟩ := ownsRow_succ hown'; obtain ⟨hv3, hv4, hr4, hk4, _, hbs, hkp⟩ := push_out HV2.out HROW2.out hS0.out hsz3 hown' hgrow; have hc3 := hv3.cell; have hf3 := hv3.frozen; have H4 := Aside0.mk (And.intro hv4 (And.intro hr4 (And.intro hk4 (And.intro hbs hkp)))); clear hv4 hr4 hk4 hbs hkp)))
        obtain ⟨hv4, hr4, hk4, hbs, hkp⟩ := H4.out
        have hk0 : Keep w.heap.size (w.heap.size + 2) w1.heap.size W _ := (Keep.of_below HB2.out HB.out.size hsz2).trans hkp
        refine ⟨(others_later HB2.out).trans hk4, hk0, ⟨⟨⟨⟨_, hv4, ?_, trivial⟩, hbs _ _ _ (bx_later HB0.out HB2.out) (by omega)⟩, HB.out.trans hk0.1⟩, Nat.le_trans hsz2 hk0.1.size⟩⟩
        rw [HPUT.out]
        exact hr4
      | some r =>
        obtain ⟨o2, rfl⟩ : ∃ o2, out = o2 ++ [r] := ⟨out.dropLast, by rw [List.getLast?_eq_some_iff] at hl2; obtain ⟨ys, h⟩ := hl2; rw [h]; simp⟩
        rw [hl2] at HPUT
        simp only [List.dropLast_concat] at HPUT
        have hlen : (o2 ++ [r]).length = o2.length + 1 := by simp
        rw [hlen] at hrow hol
        obtain ⟨g, co, rfl⟩ := ownsRow_succ hrow
        have HV := Aside0.mk hv
        have HROW := Aside0.mk hrow
        have HB := Aside0.mk hB
        have HB0 := Aside0.mk hb0
        have hmm : o2.length + 1 ≤ 4000000 := by omega
        generalize hm : o2.length = m at *
        have HM := Aside0.mk hm
        clear hv hrow hB hb0 hl2 hm hlen hol hbl
        by_cases heq : r.f1 = wrap64 (x.1 - 1)
        · rw [if_pos heq] at HPUT
          have heqb : (r.f1 == wrap64 (x.1 - 1)) = true := beq_iff_eq.mpr heq
          have hk1 : IntKind.i64.wrap ((m : Int) + 1 - 1) = (m : Int) := by rw [IntKind.wrap_i64]; omega
          have hk2 : IntKind.i64.wrap (m : Int) = (m : Int) := by rw [IntKind.wrap_i64]; omega
          have hk3 : (0 : Int) ≤ (m : Int) := by omega
          have hk4 : wrap64 (m : Int) = (m : Int) := by unfold wrap64; omega
          have hsz2 := Aside0.mk hsz2
          clear heq
          clear hlt
          gi_upto_region 7 with (refine ⟨trivial, ?_⟩; gi_at_call 62; go_loud (refine (CallsIn.inRound lr (callsIn_wide.2 HX.out)).mono ?_; rintro e w2 ⟨rfl, hB2⟩; have HB2 := Aside0.mk hB2; have hv2 := bx_later HV.out hB2; have hc2 := hv2.cell; have HV2 := Aside0.mk hv2; have HROW2 := Aside0.mk (own_later HROW.out hB2); have hsz3 := Aside0.mk (Nat.le_trans hsz2.out hB2.size); have hcl : w2.cell? ⟨g, m * 2 + 1, none⟩ = some (.int .i64 r.f1) := (by rw [HROW2.out.cellAt (m * 2 + 1) (by omega), flatB_snoc, List.getElem?_append_right (by rw [flatB_length, HM.out]; omega), flatB_length, HM.out]; simp); have hfl : w2.frozen? ⟨g, m * 2 + 1, none⟩ = false := HROW2.out.frozenAt _; clear hB2 hv2))
          gi_wp2
          obtain ⟨hs1, hs2⟩ := HROW2.out.stored (m * 2 + 1) (.int .i64 x.2)
          have hne1 := HV2.out.not_row (by decide) HROW2.out
          have hb2 := bx_later HB0.out HB2.out
          have hne0 := hb2.not_row (by decide) HROW2.out
          have hg2 := (HROW2.out.lt g rfl).1
          have hk0 : Keep w.heap.size (w.heap.size + 2) w1.heap.size W (w2.setCell ⟨g, m * 2 + 1, none⟩ (.int .i64 x.2)) :=
            (Keep.of_below HB2.out HB.out.size hsz2.out).trans ⟨(Below.refl _ w2).grown hs2 (by have := HB.out.size; have := HB2.out.size; omega) (fun k e => by cases e; have := hS0.out; omega), fun k h1 h2 => hs2.block k (by have := hsz3.out; omega) (fun e => by cases e; omega)⟩
          refine ⟨(others_later HB2.out).trans (KeepsOthers.setCell _ _ _), hk0, ⟨⟨⟨⟨_, HV2.out.kept hs2 hne1, ?_, trivial⟩, hb2.kept hs2 hne0⟩, HB.out.trans hk0.1⟩, Nat.le_trans hsz2.out hk0.1.size⟩⟩
          rw [HPUT.out]
          have e : (flatB (o2 ++ [r])).set (m * 2 + 1) (.int .i64 x.2) = flatB (o2 ++ [⟨r.f0, x.2⟩]) := by
            rw [flatB_snoc, flatB_snoc, List.set_append_right _ _ (by rw [flatB_length, HM.out]; omega), flatB_length, HM.out, Nat.add_sub_cancel_left]
            rfl
          have e2 : (o2 ++ [(⟨r.f0, x.2⟩ : S35)]).length = m + 1 := by simp; exact HM.out
          rw [e2, ← e]
          exact hs1
        · rw [if_neg heq] at HPUT
          have heqb : (r.f1 == wrap64 (x.1 - 1)) = false := beq_eq_false_iff_ne.mpr heq
          have hk1 : IntKind.i64.wrap ((m : Int) + 1 - 1) = (m : Int) := by rw [IntKind.wrap_i64]; omega
          have hk2 : IntKind.i64.wrap (m : Int) = (m : Int) := by rw [IntKind.wrap_i64]; omega
          have hk3 : (0 : Int) ≤ (m : Int) := by omega
          have hk4 : wrap64 (m : Int) = (m : Int) := by unfold wrap64; omega
          have hsz2 := Aside0.mk hsz2
          clear heq
          clear hlt
          gi_upto_region 7 with (refine ⟨trivial, ?_⟩; gi_at_call 62; go_loud (refine (CallsIn.inRound lr (callsIn_wide.2 HX.out)).mono ?_; rintro e w2 ⟨rfl, hB2⟩; have HB2 := Aside0.mk hB2; have hv2 := bx_later HV.out hB2; have hc2 := hv2.cell; have HV2 := Aside0.mk hv2; have HROW2 := Aside0.mk (own_later HROW.out hB2); have hsz3 := Aside0.mk (Nat.le_trans hsz2.out hB2.size); have hcl : w2.cell? ⟨g, m * 2 + 1, none⟩ = some (.int .i64 r.f1) := (by rw [HROW2.out.cellAt (m * 2 + 1) (by omega), flatB_snoc, List.getElem?_append_right (by rw [flatB_length, HM.out]; omega), flatB_length, HM.out]; simp); clear hB2 hv2))
          gi_upto_region 9 with fail
          gi_wp2_with (gi_at_builtin; go_loud (refine wpListIn_append_own _ rfl _ _ 22 rfl w1.heap.size 35 i0 (.agg #[.int .i64 0, .int .i64 0]) 2 16 Try.underlying22 hi hz0 hz1 hz2 rfl (by decide) _ _ _ rfl (HROW2.out.alloc _) ⟨w2.heap.size, 0, none⟩ 1 1 [.int .i64 x.1, .int .i64 x.2] rfl rfl (cell_two_new _ _ _ _) (by simp [Value.oneCell']) (by unfold maxLen; omega) (by omega) (by simp; exact Nat.le_succ_of_le hsz3.out) ?_; intro v' w3 hown' hgrow _; obtain ⟨g', cap', rfl⟩ := ownsRow_succ (k := m + 1) hown'; obtain ⟨hv3, hv4, hr4, hk4, _, hbs, hkp⟩ := push_out HV2.out HROW2.out hS0.out hsz3.out hown' hgrow; have hc3 := hv3.cell; have hf3 := hv3.frozen; have H4 := Aside0.mk (And.intro hv4 (And.intro hr4 (And.intro hk4 (And.intro hbs hkp)))); clear hv4 hr4 hk4 hbs hkp))
          obtain ⟨hv4, hr4, hk4, hbs, hkp⟩ := H4.out
          have hk0 : Keep w.heap.size (w.heap.size + 2) w1.heap.size W _ := (Keep.of_below HB2.out HB.out.size hsz2.out).trans hkp
          refine ⟨(others_later HB2.out).trans hk4, hk0, ⟨⟨⟨⟨_, hv4, ?_, trivial⟩, hbs _ _ _ (bx_later HB0.out HB2.out) (by omega)⟩, HB.out.trans hk0.1⟩, Nat.le_trans hsz2.out hk0.1.size⟩⟩
          rw [HPUT.out]
          have e := flatB_snoc (o2 ++ [r]) ⟨x.1, x.2⟩
          rw [e]
          have e2 : (o2 ++ [r] ++ [(⟨x.1, x.2⟩ : S35)]).length = m + 1 + 1 := by simp; exact HM.out
          rw [e2]
          exact hr4
  case done =>
    rintro D ys W hD rfl ⟨⟨⟨⟨v, hv, hrow, _⟩, hb0⟩, hB⟩, hsz2⟩ hK
    have hc := hv.cell
    gi_wp2
    refine ⟨by simp, .inl ⟨_, _, rfl, run_takeDeferred hK, ?_⟩⟩
    exact ⟨_, results_tmp rfl _ _ _, v, rfl, own_mono (ownsRow_putObj hrow _ hK rfl) (by omega), hB.trans (belowK_b (w := w) (Nat.le_refl _) W D _ _ (by omega) hK rfl rfl)⟩
  case stop =>
    rintro D c pre W _ _ h _
    exact h.elim
end Own
end Go.Proofs.Ytcdahnkdongmdaa.All
