/- Texts of the claim TermTells, merged, without what it does not use. -/
import Derived.Test.YtcdahnkdongmdaaZTermTellsH1
import Derived.Lib.AppendZerosOnto
namespace Go.Proofs.Ytcdahnkdongmdaa.All
namespace Own
open Go.RowKit Go.Shelf Go.Proofs.YtcdahnkdongmdaaW.PrintWords Go.Proofs.YtcdahnkdongmdaaW.PrintLast Go.Proofs.YtcdahnkdongmdaaW.PrintMore
set_option linter.unusedVariables false
set_option linter.unusedSimpArgs false
attribute [local go_sem] Oper.semAt_some
theorem info31'' : (Try.prog.info? 35).map (fun i => (i.zero, i.size, i.bytes)) = some (some (.agg #[(.int .i64 0), (.int .i64 0)]), 2, 16) := by kernel_rfl
set_option maxHeartbeats 4000000 in
set_option maxRecDepth 100000 in
theorem grow_calls (n : Nat) (w : World) (hn : n ≤ 4000000) :
    Calls Try.prog 71 #[.slice none 0 0, .int .i64 n] w fun e w' => ∃ v, e = .returned v ∧ Kd.R k35 35 w' w.heap.size (fun _ => True) v [] ∧ Below w.heap.size w w' := by
  have hu31 := Try.underlying35
  have h1 : ¬ ((n : Int) < 0) := by omega
  have h3 : wrap64 ((n : Int) - 0) = (n : Int) := by unfold wrap64; omega
  have h3' : wrap64 (n : Int) = (n : Int) := by unfold wrap64; omega
  by_cases h0 : n = 0
  · subst h0
    go_enter Try.func71, Try.ntmps71
    go_wp2
    go_ret
    exact ⟨_, rfl, Kd.R_nil _ _ _ _ _, Below.refl _ _⟩
  · have h4 : (n : Int) > 0 := by omega
    obtain ⟨i0, hi, hz0, hz1, hz2⟩ := info_parts info31''
    have hold : (Builtin.firstCells i0.size 0 (.slice none 0 0)).run Try.prog w.drew = .ok ([] : List Value).toArray w.drew := run_firstCells_none w.drew i0.size 0 0 0
    have hrz : ∀ ty, (Builtin.append_ #[22, 3] ty #[.slice none 0 0, .int .i64 (n : Int)]).run Try.prog w =
        .ok (.slice (some ⟨w.heap.size, 0, none⟩) n (grownCap w n 0 35)) (w.drew.alloc (.cells (#[] ++ Builtin.zeroCells (Value.agg #[(.int .i64 0), (.int .i64 0)]).cells n ++ Builtin.zeroCells (Value.agg #[(.int .i64 0), (.int .i64 0)]).cells (grownCap w n 0 35 - n)) 35)) := fun ty => by
      have h := Lib.run_append_grow_zeros w 22 3 ty 35 i0 _ .i64 .i64 Try.underlying22 Try.underlying3 hi hz0 none 0 0 [] hold n (by omega) (by omega) (by omega) (by omega) (by rw [hz2]; omega)
        (by rw [Nat.zero_add]; exact growslice_fits (by omega) (by rw [hz2]; omega))
      rw [Nat.zero_add] at h
      exact h
    have hGn : n ≤ grownCap w n 0 35 := grownCap_ge w _ _ _
    have hGm := grownCap_le_maxLen w n 0 35 (by unfold maxLen; omega)
    obtain ⟨G, hG⟩ : ∃ G, G = grownCap w n 0 35 := ⟨_, rfl⟩
    rw [← hG] at hrz hGn hGm
    have hG63 : G ≤ 9223372036854775807 := by unfold maxLen at hGm; omega
    have hcz : (#[] ++ Builtin.zeroCells (Value.agg #[(.int .i64 0), (.int .i64 0)]).cells n ++ Builtin.zeroCells (Value.agg #[(.int .i64 0), (.int .i64 0)]).cells (G - n)).size = G * 2 := by
      have e2 : (Value.agg #[(.int .i64 0), (.int .i64 0)]).cells.size = 2 := by rfl
      rw [Array.size_append, Array.size_append, size_zeroCells, size_zeroCells, e2]; simp; omega
    obtain ⟨Z, hZ⟩ : ∃ Z, Z = (#[] ++ Builtin.zeroCells (Value.agg #[(.int .i64 0), (.int .i64 0)]).cells n ++ Builtin.zeroCells (Value.agg #[(.int .i64 0), (.int .i64 0)]).cells (G - n)) := ⟨_, rfl⟩
    rw [← hZ] at hrz hcz
    have HRZ := Aside0.mk hrz
    have HM := Aside0.mk hGm
    clear hold hG hZ hrz hGm hi hz0 hz1 hz2
    go_enter Try.func71, Try.ntmps71
    go_wp2_with (at_builtin; go_loud (refine Lib.wpList_append_run _ rfl _ _ _ _ rfl _ _ rfl rfl _ _ (HRZ.out _) ?_))
    go_ret
    refine ⟨_, rfl, ⟨fun _ _ => trivial, [], ⟨rfl, .inr ⟨w.heap.size, G, Z, rfl, Nat.le_refl _, ?_, Nat.zero_le _, HM.out, hcz, by simp⟩⟩, Reps.none _ _⟩, ?_⟩
    · show (w.drew.heap.push _)[w.drew.heap.size]? = _
      exact Array.getElem?_push_size
    · exact (Below.refl _ w).drew.alloc (Nat.le_refl _) _
set_option maxHeartbeats 4000000 in
set_option maxRecDepth 100000 in
theorem concat_calls (B c : Nat) (A1 A2 : Option Addr) (c1 c2 : Nat) (l1 l2 : List S35) (w : World) (hB0 : w.cell? ⟨B, 0, none⟩ = some (.slice A1 l1.length c1)) (hB1 : w.cell? ⟨B, 1, none⟩ = some (.slice A2 l2.length c2))
    (hr1 : Kd.C k35 w A1 l1.length l1) (hr2 : Kd.C k35 w A2 l2.length l2) (h1 : l1.length ≤ 1000000) (h2 : l2.length ≤ 1000000) :
    Calls Try.prog 63 #[.slice (some ⟨B, 0, none⟩) 2 c] w fun e w' => ∃ v, e = .returned v ∧ Kd.R k35 35 w' w.heap.size (fun _ => True) v (l1 ++ l2) ∧ Below w.heap.size w w' := by
  have hu31 := Try.underlying35
  obtain ⟨tot, htot⟩ : ∃ tot : Nat → Nat, ∀ k, tot k = if k = 0 then 0 else if k = 1 then l1.length else l1.length + l2.length := ⟨_, fun _ => rfl⟩
  have ht0 : tot 0 = 0 := by rw [htot]; rfl
  have ht1 : tot 1 = l1.length := by rw [htot]; rfl
  have ht2 : tot 2 = l1.length + l2.length := by rw [htot]; rfl
  have HG := Aside0.mk (grow_calls (l1.length + l2.length) w (by omega))
  have HB0 := Aside0.mk hB0
  have HB1 := Aside0.mk hB1
  have HR1 := Aside0.mk hr1
  have HR2 := Aside0.mk hr2
  clear hr1 hr2 htot
  go_enter Try.func63, Try.ntmps63
  go_wp2
  go_loopw [3, 11] (fun s i wr => ∃ k : Nat, k ≤ 2 ∧ s = .int .i64 (tot k : Nat) ∧ i = .int .i64 (k : Nat) ∧ w = wr) (fun s i _ => 2 - (intOf i).toNat)
  case atStart => exact ⟨0, by omega, by rw [ht0]; rfl, rfl, rfl⟩
  case round =>
    obtain ⟨k, hk, rfl, rfl, rfl⟩ := hrel
    obtain rfl | rfl | rfl : k = 0 ∨ k = 1 ∨ k = 2 := by omega
    · have hc := HB0.out
      rw [ht0]
      have hn : ¬ ((l1.length : Int) < 0) := by omega
      have hw : wrap64 ((0 : Int) + (l1.length : Int)) = (l1.length : Int) := by unfold wrap64; omega
      have hw' : wrap64 (l1.length : Int) = (l1.length : Int) := by unfold wrap64; omega
      go_wp2
      exact ⟨⟨1, by omega, by rw [ht1], rfl, trivial⟩, by decide⟩
    · have hc := HB1.out
      rw [ht1]
      have hn : ¬ ((l1.length : Int) + (l2.length : Int) < 0) := by omega
      have hw : wrap64 ((l1.length : Int) + (l2.length : Int)) = (l1.length : Int) + (l2.length : Int) := by unfold wrap64; omega
      go_wp2
      exact ⟨⟨2, by omega, by rw [ht2, Int.natCast_add], rfl, trivial⟩, by decide⟩
    · rw [ht2]
      go_wp2_with (go_at_call 71; go_loud (refine HG.out.mono ?_; rintro e w1 ⟨v, rfl, hR, hB⟩; have HR := Aside0.mk hR; have HB := Aside0.mk hB; clear hR hB))
      obtain ⟨pr, hpr⟩ : ∃ pr : Nat → List S35, ∀ k, pr k = if k = 0 then [] else if k = 1 then l1 else l1 ++ l2 := ⟨_, fun _ => rfl⟩
      have hp0 := Aside0.mk (show pr 0 = [] by rw [hpr]; rfl)
      have hp1 := Aside0.mk (show pr 1 = l1 by rw [hpr]; rfl)
      have hp2 := Aside0.mk (show pr 2 = l1 ++ l2 by rw [hpr]; rfl)
      clear hpr
      go_loopw [6, 27] (fun v i w2 => ∃ k : Nat, k ≤ 2 ∧ i = .int .i64 (k : Nat) ∧ Aside0 (Kd.R k35 35 w2 w.heap.size (fun _ => True) v (pr k)) ∧ Aside0 (Below w.heap.size w w2)) (fun v i _ => 2 - (intOf i).toNat)
      case atStart => exact ⟨0, by omega, rfl, ⟨by rw [hp0.out]; exact HR.out⟩, HB⟩
      case round =>
        obtain ⟨k, hk, rfl, HR3, HB3⟩ := hrel
        have hne : ∀ (x : S35) (cs : List Value) (W : World), k35.K W x cs → k35.M W w.heap.size (fun _ => False) x cs := fun x cs W h => by rw [k35_open h]; exact k35_mkM _ _ _ _
        obtain rfl | rfl | rfl : k = 0 ∨ k = 1 ∨ k = 2 := by omega
        · have hc := (HB3.out.cell (p := ⟨B, 0, none⟩) (block_lt HB0.out)).trans HB0.out
          go_wp2_with (at_builtin; go_loud (refine Kd.R_append_rows k35 w.heap.size rfl _ _ 22 35 _ 16 rfl Try.underlying22 info31'' rfl (by decide) (by decide) _ _ _ _ _ _ (fun _ => True) (fun _ => False) rfl rfl HR3.out (Kd.C_below HR1.out HB3.out) (fun x cs h => hne x cs _ h) (fun _ h => h.elim) (fun _ _ => trivial) HB3.out HB3.out.size (by rw [hp0.out, List.length_nil]; omega) ?_; intro v1 w3 hR4 hB4 _ _; have HR4 := Aside0.mk hR4; have HB4 := Aside0.mk hB4; clear hR4 hB4))
          exact ⟨⟨1, by omega, rfl, ⟨by rw [hp1.out]; have := HR4.out; rw [hp0.out] at this; exact this⟩, HB4⟩, by decide⟩
        · have hc := (HB3.out.cell (p := ⟨B, 1, none⟩) (block_lt (a := ⟨B, 1, none⟩) HB1.out)).trans HB1.out
          go_wp2_with (at_builtin; go_loud (refine Kd.R_append_rows k35 w.heap.size rfl _ _ 22 35 _ 16 rfl Try.underlying22 info31'' rfl (by decide) (by decide) _ _ _ _ _ _ (fun _ => True) (fun _ => False) rfl rfl HR3.out (Kd.C_below HR2.out HB3.out) (fun x cs h => hne x cs _ h) (fun _ h => h.elim) (fun _ _ => trivial) HB3.out HB3.out.size (by rw [hp1.out]; omega) ?_; intro v1 w3 hR4 hB4 _ _; have HR4 := Aside0.mk hR4; have HB4 := Aside0.mk hB4; clear hR4 hB4))
          exact ⟨⟨2, by omega, rfl, ⟨by rw [hp2.out]; have := HR4.out; rw [hp1.out] at this; exact this⟩, HB4⟩, by decide⟩
        · go_wp2
          go_ret
          exact ⟨_, rfl, by rw [← hp2.out]; exact HR3.out, HB3.out⟩
end Own
end Go.Proofs.Ytcdahnkdongmdaa.All
