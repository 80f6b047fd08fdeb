/- Contracts of functions of the program, each for every input, printed for this claim by a program out of the translation, some written by hand. -/
import Derived.Test.YtahabdogohdjeaaDoorAllx0
import Derived.Test.YtahabdogohdjeaaDoorAllx1
import Derived.Test.YtahabdogohdjeaaDoorAllx3
namespace Go.Proofs.YtahabdogohdjeaaDoor.All
open Go.RowKit Go.Proofs.YtahabdogohdjeaaDoorW.PrintWords Go.Proofs.YtahabdogohdjeaaDoorW.PrintLast Go.Proofs.YtahabdogohdjeaaDoorW.PrintMore
attribute [local go_sem] max2_int min2_int max_two min_two max_three min_three max_four min_four   -- for this text's walks alone
set_option linter.unusedVariables false
set_option linter.unusedSimpArgs false

/-! ### exegetelaw04_awake: function 10 -/
theorem exegetelaw04_awake.up {f : Nat → Option Int} {v : Int} (hm : ∀ k, LeO (f k) (f (k + 1))) {k0 : Nat} (h0 : f k0 = some v) : ∀ d, f (k0 + d) = some v
  | 0 => h0
  | d + 1 => hm (k0 + d) v (exegetelaw04_awake.up hm h0 d)
def exegetelaw04_awake.f (k : Nat) : Option Bool := if 20 ≤ k then some true else none
theorem exegetelaw04_awake.mono : ∀ k, LeO (exegetelaw04_awake.f k) (exegetelaw04_awake.f (k + 1)) := by
  intro k v h
  unfold exegetelaw04_awake.f at h ⊢
  by_cases hk : 20 ≤ k
  · rw [if_pos hk] at h; rw [if_pos (by omega)]; exact h
  · rw [if_neg hk] at h; cases h
theorem exegetelaw04_awake.col : lines_Col.f 20 [97, 9, 98, 10, 32, 99] 2 4 = some 4 := by kernel_rfl
theorem exegetelaw04_awake.begin : lines_Begin.f 20 [97, 9, 98, 10, 32, 99] 6 = some 4 := by kernel_rfl
theorem exegetelaw04_awake.reads (w : World) : Kd.C (Kd.int .u8) (w.alloc (.cells #[.int .u8 97, .int .u8 9, .int .u8 98, .int .u8 10, .int .u8 32, .int .u8 99] 5 (6, 7))) (some ⟨w.heap.size, 0, none⟩) ([97, 9, 98, 10, 32, 99] : List Int).length [97, 9, 98, 10, 32, 99] := by
  refine ⟨rfl, by decide, fun _ => ⟨_, rfl, fun j p hp => ?_⟩⟩
  have hj : j < 6 := by
    rcases Nat.lt_or_ge j 6 with h | h
    · exact h
    · rw [List.getElem?_eq_none (by simpa using h)] at hp; cases hp
  refine ⟨[.int .u8 p], rfl, rfl, fun i u hi => ?_⟩
  have h0 : i = 0 := by
    rcases i with _ | i
    · rfl
    · simp at hi
  subst h0
  have hu : u = .int .u8 p := by simpa using hi.symm
  subst hu
  have hA : (⟨w.heap.size, 0, none⟩ : Addr).add (j * (Kd.int .u8).sz + 0) = ⟨w.heap.size, j, none⟩ := by
    show (⟨w.heap.size, 0, none⟩ : Addr).add (j * 1 + 0) = _
    rw [Nat.mul_one, Nat.add_zero]
    unfold Addr.add
    split
    · next h => simp [h]
    · simp
  rw [hA, World.cell?_alloc_mark]
  match j, hj, hp with
  | 0, _, hp => simp at hp; subst hp; rfl
  | 1, _, hp => simp at hp; subst hp; rfl
  | 2, _, hp => simp at hp; subst hp; rfl
  | 3, _, hp => simp at hp; subst hp; rfl
  | 4, _, hp => simp at hp; subst hp; rfl
  | 5, _, hp => simp at hp; subst hp; rfl
theorem exegetelaw04_awake.two {w : World} {A : Option Addr} (h : Kd.C (Kd.int .i64) w A 2 [4, 6]) : ∃ b o : Nat, A = some ⟨b, o, none⟩ ∧ w.cell? ⟨b, o, none⟩ = some (.int .i64 4) ∧ w.cell? ⟨b, o + 1, none⟩ = some (.int .i64 6) := by
  obtain ⟨⟨b, o, s⟩, hAv, hc0⟩ := Kd.at_int h 0 (by decide) (by decide)
  obtain ⟨ad2, hAv2, hc1⟩ := Kd.at_int h 1 (by decide) (by decide)
  have e2 : ad2 = ⟨b, o, s⟩ := Option.some.inj (hAv2.symm.trans hAv)
  subst e2
  have hs : s = none := by
    cases s with
    | none => rfl
    | some x =>
      simp only [World.cell?, Addr.add, Option.isSome_some, if_true] at hc0
      split at hc0 <;> cases hc0
  subst hs
  exact ⟨b, o, hAv, hc0, hc1⟩
set_option maxHeartbeats 4000000 in
set_option maxRecDepth 100000 in
theorem exegetelaw04_awake.calls (k : Nat) (r : Bool) (w : World) (h : exegetelaw04_awake.f k = some r) :
    Calls Tryd.prog 10 #[] w fun e w' => e = .returned (.bool r) ∧ Below w.heap.size w w' := by
  unfold exegetelaw04_awake.f at h
  by_cases hk : 20 ≤ k
  · rw [if_pos hk] at h
    obtain rfl := Option.some.inj h
    clear h
    obtain ⟨d, rfl⟩ := Nat.exists_eq_add_of_le hk
    clear hk
    have hcol := exegetelaw04_awake.up (fun k => lines_Col.mono _ _ _ k) exegetelaw04_awake.col d
    have hbeg := exegetelaw04_awake.up (fun k => lines_Begin.mono _ _ k) exegetelaw04_awake.begin d
    have C0 := exegetelaw04_awake.reads w
    have hx : Aside0 (Below w.heap.size w (w.alloc (.cells #[.int .u8 97, .int .u8 9, .int .u8 98, .int .u8 10, .int .u8 32, .int .u8 99] 5 (6, 7)))) := ⟨(Below.refl _ w).alloc (Nat.le_refl _) _⟩
    have kc := fun (w : World) (C : Array Value) (n c : Nat) => Lib.run_convert_bytes_const (P := Tryd.prog) w 22 5 C n c Tryd.underlying22 Tryd.underlying5
    generalize hy : ([97, 9, 98, 10, 32, 99] : List Int) = y at hcol hbeg C0
    have hend : lines_Ends.f y = some [4, 6] := by rw [← hy]; kernel_rfl
    have hlin : lines_Line.f y 5 = some 1 := by rw [← hy]; kernel_rfl
    have hfir : lines_First.f y 4 = some 5 := by rw [← hy]; kernel_rfl
    have hl : y.length = 6 := by rw [← hy]; rfl
    clear hy
    rw [hl] at C0
    have cE : ∀ W, Kd.C (Kd.int .u8) W (some ⟨w.heap.size, 0, none⟩) 6 y → Calls Tryd.prog 12 #[.slice (some ⟨w.heap.size, 0, none⟩) 6 6] W fun e w' => ∃ Av cv, e = .returned (.slice Av 2 cv) ∧ Kd.C (Kd.int .i64) w' Av 2 [4, 6] ∧ Below W.heap.size W w' := by
      intro W hW
      have := lines_Ends.calls (some ⟨w.heap.size, 0, none⟩) 6 y [4, 6] W (by rw [hl]; exact hW) (by omega) hend
      rw [hl] at this
      refine this.mono ?_
      rintro e w' ⟨v, rfl, hR, hB⟩
      obtain ⟨Av, cv, rfl⟩ := Kd.R_slice hR
      exact ⟨Av, cv, rfl, (Kd.R_reads' hR).2.2, hB⟩
    have cO : ∀ W, Kd.C (Kd.int .u8) W (some ⟨w.heap.size, 0, none⟩) 6 y → Calls Tryd.prog 20 #[.slice (some ⟨w.heap.size, 0, none⟩) 6 6, .int .i64 2, .int .i64 4] W fun e w' => e = .returned (.int .i64 4) ∧ Below W.heap.size W w' := by
      intro W hW
      have := lines_Col.calls (20 + d) (some ⟨w.heap.size, 0, none⟩) 6 y 2 4 4 W (by rw [hl]; exact hW) (by omega) hcol
      rw [hl] at this
      exact this
    have cL : ∀ W, Kd.C (Kd.int .u8) W (some ⟨w.heap.size, 0, none⟩) 6 y → Calls Tryd.prog 16 #[.slice (some ⟨w.heap.size, 0, none⟩) 6 6, .int .i64 5] W fun e w' => e = .returned (.int .i64 1) ∧ Below W.heap.size W w' := by
      intro W hW
      have := lines_Line.calls (some ⟨w.heap.size, 0, none⟩) 6 y 5 1 W (by rw [hl]; exact hW) (by omega) hlin
      rw [hl] at this
      exact this
    have cF : ∀ W, Kd.C (Kd.int .u8) W (some ⟨w.heap.size, 0, none⟩) 6 y → Calls Tryd.prog 18 #[.slice (some ⟨w.heap.size, 0, none⟩) 6 6, .int .i64 4] W fun e w' => e = .returned (.int .i64 5) ∧ Below W.heap.size W w' := by
      intro W hW
      have := lines_First.calls (some ⟨w.heap.size, 0, none⟩) 6 y 4 5 W (by rw [hl]; exact hW) (by omega) hfir
      rw [hl] at this
      exact this
    have cG : ∀ W, Kd.C (Kd.int .u8) W (some ⟨w.heap.size, 0, none⟩) 6 y → Calls Tryd.prog 14 #[.slice (some ⟨w.heap.size, 0, none⟩) 6 6, .int .i64 6] W fun e w' => e = .returned (.int .i64 4) ∧ Drawn0 W w' := by
      intro W hW
      have := lines_Begin.calls (20 + d) (some ⟨w.heap.size, 0, none⟩) 6 y 6 4 W (by rw [hl]; exact hW) (by omega) hbeg
      rw [hl] at this
      exact this
    have HC := Aside0.mk C0
    have CE := Aside0.mk cE; have CO := Aside0.mk cO; have CL := Aside0.mk cL; have CF := Aside0.mk cF; have CG := Aside0.mk cG
    clear C0 hend hlin hfir hcol hbeg hl cE cO cL cF cG
    go_enter Tryd.func10, Tryd.ntmps10
    go_wp2_with (first
      | (go_at_call 12; refine (CE.out _ HC.out).mono ?_; rintro e w1 ⟨Av, cv, rfl, hR1, hB1⟩; have HR1 := Aside0.mk hR1; have HB1 := Aside0.mk hB1; have HC1 := Aside0.mk (Kd.C_below HC.out hB1); clear hR1 hB1)
      | (go_at_call 20; refine (CO.out _ HC1.out).mono ?_; rintro e w2 ⟨rfl, hB2⟩; have HB2 := Aside0.mk hB2; have HC2 := Aside0.mk (Kd.C_below HC1.out hB2); have HR2 := Aside0.mk (Kd.C_below HR1.out hB2); clear hB2)
      | (go_at_call 16; refine (CL.out _ HC2.out).mono ?_; rintro e w3 ⟨rfl, hB3⟩; have HB3 := Aside0.mk hB3; have HC3 := Aside0.mk (Kd.C_below HC2.out hB3); have HR3 := Aside0.mk (Kd.C_below HR2.out hB3); clear hB3)
      | (go_at_call 14; go_loud (refine (CG.out _ HC3.out).mono ?_; rintro e w' ⟨rfl, ⟨nd, rfl⟩⟩; have HC4 := Aside0.mk (Kd.C_drewN HC3.out nd); have HR4 := Aside0.mk (Kd.C_drewN HR3.out nd)))
      | (go_at_call 18; go_loud (refine (CF.out _ HC4.out).mono ?_; rintro e w5 ⟨rfl, hB5⟩; have HB5 := Aside0.mk hB5; have HR5 := Aside0.mk (Kd.C_below HR4.out hB5); clear hB5; obtain ⟨ba, oa, hAv, hc0, hc1⟩ := exegetelaw04_awake.two HR5.out; subst hAv)))
    go_ret
    exact ⟨rfl, below_step (below_step (below_step (pw_below_drewN (below_step (below_step hx.out HB1.out) HB2.out |> fun h => below_step h HB3.out) nd) HB5.out) (Below.refl _ _)) (Below.refl _ _)⟩
  · rw [if_neg hk] at h; cases h

/-! ### exegeteref04_Ints: function 11 -/
def exegeteref04_Ints.l0 : Nat → List Int → List Int → Int → Option (Bool)
  | 0, _, _, _ => none
  | k + 1, x0, x1, x5 => if x5 < (x0.length : Int) then (if 0 ≤ x5 then (if x5 < (x1.length : Int) then (if (rd x0 x5) = (rd x1 x5) then (exegeteref04_Ints.l0 k x0 x1 (wrap64 (x5 + 1))) else (some false)) else (none)) else (none)) else (some true)
def exegeteref04_Ints.f (k : Nat) (l0 : List Int) (l1 : List Int) : Option (Bool) := if (l0.length : Int) = (l1.length : Int) then (exegeteref04_Ints.l0 k l0 l1 0) else (some false)
theorem exegeteref04_Ints.mono_l : ∀ k, (∀ y0 y1 y2, LeO (exegeteref04_Ints.l0 k y0 y1 y2) (exegeteref04_Ints.l0 (k + 1) y0 y1 y2))
  | 0 => fun _ _ _ r h => by simp [exegeteref04_Ints.l0] at h
  | k + 1 => by
    have ih0 := exegeteref04_Ints.mono_l k
    · intro y0 y1 y2
      unfold exegeteref04_Ints.l0
      repeat' first
      | (with_reducible exact ih0 _ _ _)
      | (with_reducible exact LeO.refl _)
      | (with_reducible exact LeO.none _)
      | (with_reducible refine LeO.ite ?_ ?_)
      | (with_reducible refine LeO.bind ?_ (fun _ => ?_))
      | exact ih0 _ _ _
      | exact LeO.none _
      | refine LeO.ite ?_ ?_
      | refine LeO.bind ?_ (fun _ => ?_)
theorem exegeteref04_Ints.mono : ∀ a0 a1 k, LeO (exegeteref04_Ints.f k a0 a1) (exegeteref04_Ints.f (k + 1) a0 a1) := by
  intro a0 a1 k
  have ih0 := exegeteref04_Ints.mono_l k
  unfold exegeteref04_Ints.f
  repeat' first
      | (with_reducible exact ih0 _ _ _)
      | (with_reducible exact LeO.refl _)
      | (with_reducible exact LeO.none _)
      | (with_reducible refine LeO.ite ?_ ?_)
      | (with_reducible refine LeO.bind ?_ (fun _ => ?_))
      | exact ih0 _ _ _
      | exact LeO.none _
      | refine LeO.ite ?_ ?_
      | refine LeO.bind ?_ (fun _ => ?_)
set_option maxHeartbeats 8000000 in
set_option maxRecDepth 100000 in
theorem exegeteref04_Ints.calls (k : Nat) (A0 : Option Addr) (c0 : Nat) (l0 : List Int) (A1 : Option Addr) (c1 : Nat) (l1 : List Int) (r : Bool) (w : World) (hr0 : Kd.C (Kd.int .i64) w A0 l0.length l0) (hc0 : l0.length ≤ c0) (hr1 : Kd.C (Kd.int .i64) w A1 l1.length l1) (hc1 : l1.length ≤ c1) (h : exegeteref04_Ints.f k l0 l1 = some r) :
    Calls Tryd.prog 11 #[.slice A0 l0.length c0, .slice A1 l1.length c1] w fun e w' => e = .returned (.bool r) ∧ Drawn0 w w' := by
  have HR0 := Aside0.mk hr0
  have HC0 := Aside0.mk hc0
  clear hr0 hc0
  have HR1 := Aside0.mk hr1
  have HC1 := Aside0.mk hc1
  clear hr1 hc1
  have H : (if (l0.length : Int) = (l1.length : Int) then (exegeteref04_Ints.l0 k l0 l1 0) else (some false)) = some r := h
  clear h
  by_cases c3 : (l0.length : Int) = (l1.length : Int)
  · rw [if_pos c3] at H
    have c3b0 : ((l0.length : Int) == (l1.length : Int)) = true := beq_iff_eq.mpr c3
    have c3b1 : ((l0.length : Int) != (l1.length : Int)) = false := bne_eq_false_iff_eq.mpr c3
    have c3b2 : (l0.length == l1.length) = true := by first | simpa using c3 | (simp at c3 ⊢; omega)
    clear c3
    have H' := Aside0.mk H
    clear H
    go_enter Tryd.func11, Tryd.ntmps11
    go_wp2
    repeat (go_quiet (fail); try go_wp2)
    go_loopg [5] k (fun kq v5 w' => ∃ (x5_1 : Int), v5 = .int .i64 x5_1 ∧ Aside0 (exegeteref04_Ints.l0 kq l0 l1 x5_1 = some r) ∧ Aside0 (kq ≤ k) ∧ Drawn0 w w')
    case atStart => exact ⟨(0), (by first | rfl | (simp; done) | (simp [*]; done)), H', ⟨Nat.le_refl _⟩, by repeat (first | exact Drawn0.refl _ | apply Drawn0.step)⟩
    case round =>
      clear H'
      try clear c1
      try clear p2
      try clear c3
      try clear c3b0
      try clear c3b1
      try clear c3b2
      obtain ⟨x5_1, rfl, HA, HK1, ⟨m1, rfl⟩⟩ := hrel
      cases gk with
      | zero => exact absurd HA.out (by simp [exegeteref04_Ints.l0])
      | succ k1 =>
        have H := HA.out
        clear HA
        simp only [exegeteref04_Ints.l0] at H
        by_cases c4 : x5_1 < (l0.length : Int)
        · rw [if_pos c4] at H
          have c4b0 : decide (x5_1 < (l0.length : Int)) = true := decide_eq_true c4
          clear c4
          by_cases c5 : 0 ≤ x5_1
          · rw [if_pos c5] at H
            have c5b0 : decide (0 ≤ x5_1) = true := decide_eq_true c5
            clear c5
            by_cases c6 : x5_1 < (l1.length : Int)
            · rw [if_pos c6] at H
              have c6b0 : decide (x5_1 < (l1.length : Int)) = true := decide_eq_true c6
              clear c6
              by_cases c7 : (rd l0 x5_1) = (rd l1 x5_1)
              · rw [if_pos c7] at H
                have c7b0 : ((rd l0 x5_1) == (rd l1 x5_1)) = true := beq_iff_eq.mpr c7
                have c7b1 : ((rd l0 x5_1) != (rd l1 x5_1)) = false := bne_eq_false_iff_eq.mpr c7
                clear c7
                have H' := Aside0.mk H
                clear H
                have p125 : 0 ≤ (x5_1 : Int) := of_decide_eq_true (by first | (with_reducible assumption) | assumption)
                have q125 : x5_1 < (l0.length : Int) := of_decide_eq_true (by first | (with_reducible assumption) | assumption)
                obtain ⟨ad125, e125, hx125_0⟩ := Kd.at_int HR0.out x5_1 p125 q125
                cases e125
                replace p125 := eq_true p125
                replace q125 := eq_true q125
                have p126 : 0 ≤ (x5_1 : Int) := of_decide_eq_true (by first | (with_reducible assumption) | assumption)
                have q126 : x5_1 < (l1.length : Int) := of_decide_eq_true (by first | (with_reducible assumption) | assumption)
                obtain ⟨ad126, e126, hx126_0⟩ := Kd.at_int HR1.out x5_1 p126 q126
                cases e126
                replace p126 := eq_true p126
                replace q126 := eq_true q126
                go_wp2
                repeat (go_quiet (fail); try go_wp2)
                go_roundg k1
                case measure => have := HK1.out; omega
                case rel => exact ⟨(wrap64 (x5_1 + 1)), (by first | rfl | (simp; done) | (simp [*]; done)), H', ⟨by have := HK1.out; omega⟩, by repeat (first | exact Drawn0.refl _ | apply Drawn0.step)⟩
              · rw [if_neg c7] at H
                have c7b0 : ((rd l0 x5_1) == (rd l1 x5_1)) = false := beq_eq_false_iff_ne.mpr c7
                have c7b1 : ((rd l0 x5_1) != (rd l1 x5_1)) = true := bne_iff_ne.mpr c7
                obtain rfl := Option.some.inj H
                have p125 : 0 ≤ (x5_1 : Int) := of_decide_eq_true (by first | (with_reducible assumption) | assumption)
                have q125 : x5_1 < (l0.length : Int) := of_decide_eq_true (by first | (with_reducible assumption) | assumption)
                obtain ⟨ad125, e125, hx125_0⟩ := Kd.at_int HR0.out x5_1 p125 q125
                cases e125
                replace p125 := eq_true p125
                replace q125 := eq_true q125
                have p126 : 0 ≤ (x5_1 : Int) := of_decide_eq_true (by first | (with_reducible assumption) | assumption)
                have q126 : x5_1 < (l1.length : Int) := of_decide_eq_true (by first | (with_reducible assumption) | assumption)
                obtain ⟨ad126, e126, hx126_0⟩ := Kd.at_int HR1.out x5_1 p126 q126
                cases e126
                replace p126 := eq_true p126
                replace q126 := eq_true q126
                go_wp2
                repeat (go_quiet (fail); try go_wp2)
                go_ret
                exact ⟨by first | rfl | (simp; done) | (simp [*]; done), by repeat (first | exact Drawn0.refl _ | apply Drawn0.step)⟩
            · rw [if_neg c6] at H
              exact absurd H (by simp)
          · rw [if_neg c5] at H
            exact absurd H (by simp)
        · rw [if_neg c4] at H
          have c4b0 : decide (x5_1 < (l0.length : Int)) = false := decide_eq_false c4
          clear c4
          obtain rfl := Option.some.inj H
          go_wp2
          repeat (go_quiet (fail); try go_wp2)
          go_ret
          exact ⟨by first | rfl | (simp; done) | (simp [*]; done), by repeat (first | exact Drawn0.refl _ | apply Drawn0.step)⟩
  · rw [if_neg c3] at H
    have c3b0 : ((l0.length : Int) == (l1.length : Int)) = false := beq_eq_false_iff_ne.mpr c3
    have c3b1 : ((l0.length : Int) != (l1.length : Int)) = true := bne_iff_ne.mpr c3
    have c3b2 : (l0.length == l1.length) = false := by first | simpa using c3 | (simp at c3 ⊢; omega)
    obtain rfl := Option.some.inj H
    go_enter Tryd.func11, Tryd.ntmps11
    go_wp2
    repeat (go_quiet (fail); try go_wp2)
    go_ret
    exact ⟨by first | rfl | (simp; done) | (simp [*]; done), by repeat (first | exact Drawn0.refl _ | apply Drawn0.step)⟩

/-! ### exegeteref04_Ends: function 13 -/
def exegeteref04_Ends.l0 : Nat → List Int → List Int → Int → Option (List Int)
  | 0, _, _, _ => none
  | k + 1, x0, x3, x4 => if x4 ≤ (x0.length : Int) then (if 0 ≤ (wrap64 (x4 - 1)) then (if (wrap64 (x4 - 1)) < (x0.length : Int) then (if (rd x0 (wrap64 (x4 - 1))) = 10 then (if x3.length < 17592186044416 then (exegeteref04_Ends.l0 k x0 (x3 ++ [x4]) (wrap64 (x4 + 1))) else (none)) else (if x4 = (x0.length : Int) then (if x3.length < 17592186044416 then (exegeteref04_Ends.l0 k x0 (x3 ++ [x4]) (wrap64 (x4 + 1))) else (none)) else (exegeteref04_Ends.l0 k x0 x3 (wrap64 (x4 + 1))))) else (none)) else (none)) else (if (x0.length : Int) = 0 then (if x3.length < 17592186044416 then (some (x3 ++ [0])) else (none)) else (some x3))
def exegeteref04_Ends.f (k : Nat) (l0 : List Int) : Option (List Int) := exegeteref04_Ends.l0 k l0 ([] : List Int) 1
theorem exegeteref04_Ends.mono_l : ∀ k, (∀ y0 y1 y2, LeO (exegeteref04_Ends.l0 k y0 y1 y2) (exegeteref04_Ends.l0 (k + 1) y0 y1 y2))
  | 0 => fun _ _ _ r h => by simp [exegeteref04_Ends.l0] at h
  | k + 1 => by
    have ih0 := exegeteref04_Ends.mono_l k
    · intro y0 y1 y2
      unfold exegeteref04_Ends.l0
      repeat' first
      | (with_reducible exact ih0 _ _ _)
      | (with_reducible exact LeO.refl _)
      | (with_reducible exact LeO.none _)
      | (with_reducible refine LeO.ite ?_ ?_)
      | (with_reducible refine LeO.bind ?_ (fun _ => ?_))
      | exact ih0 _ _ _
      | exact LeO.none _
      | refine LeO.ite ?_ ?_
      | refine LeO.bind ?_ (fun _ => ?_)
theorem exegeteref04_Ends.mono : ∀ a0 k, LeO (exegeteref04_Ends.f k a0) (exegeteref04_Ends.f (k + 1) a0) := by
  intro a0 k
  have ih0 := exegeteref04_Ends.mono_l k
  unfold exegeteref04_Ends.f
  repeat' first
      | (with_reducible exact ih0 _ _ _)
      | (with_reducible exact LeO.refl _)
      | (with_reducible exact LeO.none _)
      | (with_reducible refine LeO.ite ?_ ?_)
      | (with_reducible refine LeO.bind ?_ (fun _ => ?_))
      | exact ih0 _ _ _
      | exact LeO.none _
      | refine LeO.ite ?_ ?_
      | refine LeO.bind ?_ (fun _ => ?_)
set_option maxHeartbeats 8000000 in
set_option maxRecDepth 100000 in
theorem exegeteref04_Ends.calls (k : Nat) (A0 : Option Addr) (c0 : Nat) (l0 : List Int) (r : List Int) (w : World) (hr0 : Kd.C (Kd.int .u8) w A0 l0.length l0) (hc0 : l0.length ≤ c0) (h : exegeteref04_Ends.f k l0 = some r) :
    Calls Tryd.prog 13 #[.slice A0 l0.length c0] w fun e w' => ∃ v0_ : Value, e = .returned (v0_) ∧ Kd.R (Kd.int .i64) 3 w' w.heap.size (fun _ => True) v0_ r ∧ Below w.heap.size w w' := by
  have HR0 := Aside0.mk hr0
  have HC0 := Aside0.mk hc0
  clear hr0 hc0
  have HB := Aside0.mk (Below.refl w.heap.size w)
  have H : (exegeteref04_Ends.l0 k l0 ([] : List Int) 1) = some r := h
  clear h
  have H' := Aside0.mk H
  clear H
  go_enter Tryd.func13, Tryd.ntmps13
  go_wp2
  go_loopg [3, 4] k (fun kq v3 v4 w' => ∃ (x3_1 : List Int) (x4_1 : Int), v4 = .int .i64 x4_1 ∧ Aside0 (exegeteref04_Ends.l0 kq l0 x3_1 x4_1 = some r) ∧ Aside0 (kq ≤ k) ∧ Aside0 (Kd.R (Kd.int .i64) 3 w' w.heap.size (fun _ => True) v3 x3_1) ∧ Aside0 (Below w.heap.size w w'))
  case atStart => exact ⟨(([] : List Int)), (1), (by first | rfl | (simp; done) | (simp [*]; done)), H', ⟨Nat.le_refl _⟩, ⟨by first | exact Kd.R_nil _ _ _ _ _ | exact Kd.N_nil _ _ _ _ _ | exact Kd.V_nil _ _ _ _ _ | exact Kd.Q_nil _ _ _ _ _ | exact Kd.S_nil _ _ _ _ _⟩, ⟨by repeat (first | (with_reducible first | exact HB.out | apply below_alloc | apply pw_below_drewN | apply below_drew1) | exact HB.out)⟩⟩
  case round =>
    clear H'
    try clear c1
    obtain ⟨x3_1, x4_1, rfl, HA, HK1, HO_3, HB⟩ := hrel
    cases gk with
    | zero => exact absurd HA.out (by simp [exegeteref04_Ends.l0])
    | succ k1 =>
      have H := HA.out
      clear HA
      simp only [exegeteref04_Ends.l0] at H
      by_cases c2 : x4_1 ≤ (l0.length : Int)
      · rw [if_pos c2] at H
        have c2b0 : decide (x4_1 ≤ (l0.length : Int)) = true := decide_eq_true c2
        clear c2
        obtain ⟨ji3, hji3⟩ : ∃ j_ : Int, (wrap64 (x4_1 - 1)) = j_ := ⟨_, rfl⟩
        replace H : (if 0 ≤ (ji3) then (if (ji3) < (l0.length : Int) then (if (rd l0 (ji3)) = 10 then (if x3_1.length < 17592186044416 then (exegeteref04_Ends.l0 k1 l0 (x3_1 ++ [x4_1]) (wrap64 (x4_1 + 1))) else (none)) else (if x4_1 = (l0.length : Int) then (if x3_1.length < 17592186044416 then (exegeteref04_Ends.l0 k1 l0 (x3_1 ++ [x4_1]) (wrap64 (x4_1 + 1))) else (none)) else (exegeteref04_Ends.l0 k1 l0 x3_1 (wrap64 (x4_1 + 1))))) else (none)) else (none)) = some r := by first | (rw [hji3] at H; exact H) | (simp only [hji3] at H ⊢; exact H)
        have hji3w : (IntKind.i64.wrap (x4_1 - 1)) = ji3 := (i64_w _).trans hji3
        by_cases c4 : 0 ≤ (ji3)
        · rw [if_pos c4] at H
          have c4b0 : decide (0 ≤ (ji3)) = true := decide_eq_true c4
          clear c4
          by_cases c5 : (ji3) < (l0.length : Int)
          · rw [if_pos c5] at H
            have c5b0 : decide ((ji3) < (l0.length : Int)) = true := decide_eq_true c5
            clear c5
            by_cases c6 : (rd l0 (ji3)) = 10
            · rw [if_pos c6] at H
              have c6b0 : ((rd l0 (ji3)) == 10) = true := beq_iff_eq.mpr c6
              have c6b1 : ((rd l0 (ji3)) != 10) = false := bne_eq_false_iff_eq.mpr c6
              clear c6
              by_cases c7 : x3_1.length < 17592186044416
              · rw [if_pos c7] at H
                have LMc7 := Aside0.mk c7
                clear c7
                obtain ⟨y128, hy128⟩ : ∃ y_ : List Int, y_ = (x3_1 ++ [x4_1]) := ⟨_, rfl⟩
                replace H : (exegeteref04_Ends.l0 k1 l0 y128 (wrap64 (x4_1 + 1))) = some r := by first | (rw [hy128]; with_reducible exact H) | (have H2_ := (Option.bind_some _ _).symm.trans H; rw [hy128]; with_reducible exact H2_) | (have H2_ := (Option.bind_some _ _).symm.trans H; with_reducible exact H2_) | with_reducible exact H | (rw [hy128]; exact H) | exact H
                have Ny128 := Aside0.mk hy128
                clear hy128
                have H' := Aside0.mk H
                clear H
                have p127 : 0 ≤ ((ji3) : Int) := of_decide_eq_true (by first | (with_reducible assumption) | assumption)
                have q127 : (ji3) < (l0.length : Int) := of_decide_eq_true (by first | (with_reducible assumption) | assumption)
                obtain ⟨ad127, e127, hx127_0⟩ := Kd.at_int HR0.out (ji3) p127 q127
                cases e127
                replace hx127_0 := (HB.out.cell (World.block_lt_of_cell? w _ hx127_0)).trans hx127_0
                replace p127 := eq_true p127
                replace q127 := eq_true q127
                go_wp2_with (first | ((with_reducible refine gate_builtin (b := .append) (xs := #[.tmp 23, .tmp 25]) rfl ?_); (try (refine gate_guard (by rfl) ?_; dsimp only)); at_builtin; refine Kd.R_append (Kd.int .i64) (w0 := w) w.heap.size rfl (.tmp 23) (.tmp 25) 25 3 (.int .i64 0) 8 rfl Tryd.underlying25 info3 rfl (by decide) (by omega) u3 x3_1 x4_1 [.int .i64 x4_1] (fun _ => True) (fun _ => False) rfl rfl ?aP (fun _ hk => hk.elim) ?aF ?aO ?aB ?aS ?aL ?_; (case aP => exact rfl); (case aB => exact (by repeat (first | (with_reducible first | exact HB.out | apply below_alloc | apply pw_below_drewN | apply below_drew1) | exact HB.out))); (case aF => exact (fun _ _ => trivial)); (case aO => exact (by (with_reducible repeat (first | apply Kd.R_alloc | apply Kd.R_drewN | apply Kd.R_drew)); exact HO_3.out)); (case aS => exact (below_size (by repeat (first | (with_reducible first | exact HB.out | apply below_alloc | apply pw_below_drewN | apply below_drew1) | exact HB.out)))); (case aL => have := LMc7.out; omega); intro v129 w8 ho hb hg hat; rw [← Ny128.out] at ho; have n0_ := Aside0.mk (hb); have n1_ := Aside0.mk (ho); clear HB; clear HO_3; have HB := n0_; have HO130 := n1_; clear n0_ n1_; clear ho hb hg hat))
                go_roundg k1
                case measure => have := HK1.out; omega
                case rel => exact ⟨(y128), (wrap64 (x4_1 + 1)), (by first | rfl | (simp; done) | (simp [*]; done)), H', ⟨by have := HK1.out; omega⟩, ⟨by (with_reducible repeat (first | apply Kd.R_alloc | apply Kd.R_drewN | apply Kd.R_drew)); exact HO130.out⟩, ⟨by repeat (first | (with_reducible first | exact HB.out | apply below_alloc | apply pw_below_drewN | apply below_drew1) | exact HB.out)⟩⟩
              · rw [if_neg c7] at H
                exact absurd H (by simp)
            · rw [if_neg c6] at H
              have c6b0 : ((rd l0 (ji3)) == 10) = false := beq_eq_false_iff_ne.mpr c6
              have c6b1 : ((rd l0 (ji3)) != 10) = true := bne_iff_ne.mpr c6
              by_cases c9 : x4_1 = (l0.length : Int)
              · rw [if_pos c9] at H
                have c9b0 : (x4_1 == (l0.length : Int)) = true := beq_iff_eq.mpr c9
                have c9b1 : (x4_1 != (l0.length : Int)) = false := bne_eq_false_iff_eq.mpr c9
                clear c9
                by_cases c10 : x3_1.length < 17592186044416
                · rw [if_pos c10] at H
                  have LMc10 := Aside0.mk c10
                  clear c10
                  obtain ⟨y131, hy131⟩ : ∃ y_ : List Int, y_ = (x3_1 ++ [x4_1]) := ⟨_, rfl⟩
                  replace H : (exegeteref04_Ends.l0 k1 l0 y131 (wrap64 (x4_1 + 1))) = some r := by first | (rw [hy131]; with_reducible exact H) | (have H2_ := (Option.bind_some _ _).symm.trans H; rw [hy131]; with_reducible exact H2_) | (have H2_ := (Option.bind_some _ _).symm.trans H; with_reducible exact H2_) | with_reducible exact H | (rw [hy131]; exact H) | exact H
                  have Ny131 := Aside0.mk hy131
                  clear hy131
                  have H' := Aside0.mk H
                  clear H
                  have p127 : 0 ≤ ((ji3) : Int) := of_decide_eq_true (by first | (with_reducible assumption) | assumption)
                  have q127 : (ji3) < (l0.length : Int) := of_decide_eq_true (by first | (with_reducible assumption) | assumption)
                  obtain ⟨ad127, e127, hx127_0⟩ := Kd.at_int HR0.out (ji3) p127 q127
                  cases e127
                  replace hx127_0 := (HB.out.cell (World.block_lt_of_cell? w _ hx127_0)).trans hx127_0
                  replace p127 := eq_true p127
                  replace q127 := eq_true q127
                  go_wp2_with (first | ((with_reducible refine gate_builtin (b := .append) (xs := #[.tmp 23, .tmp 25]) rfl ?_); (try (refine gate_guard (by rfl) ?_; dsimp only)); at_builtin; refine Kd.R_append (Kd.int .i64) (w0 := w) w.heap.size rfl (.tmp 23) (.tmp 25) 25 3 (.int .i64 0) 8 rfl Tryd.underlying25 info3 rfl (by decide) (by omega) u3 x3_1 x4_1 [.int .i64 x4_1] (fun _ => True) (fun _ => False) rfl rfl ?aP (fun _ hk => hk.elim) ?aF ?aO ?aB ?aS ?aL ?_; (case aP => exact rfl); (case aB => exact (by repeat (first | (with_reducible first | exact HB.out | apply below_alloc | apply pw_below_drewN | apply below_drew1) | exact HB.out))); (case aF => exact (fun _ _ => trivial)); (case aO => exact (by (with_reducible repeat (first | apply Kd.R_alloc | apply Kd.R_drewN | apply Kd.R_drew)); exact HO_3.out)); (case aS => exact (below_size (by repeat (first | (with_reducible first | exact HB.out | apply below_alloc | apply pw_below_drewN | apply below_drew1) | exact HB.out)))); (case aL => have := LMc10.out; omega); intro v132 w11 ho hb hg hat; rw [← Ny131.out] at ho; have n0_ := Aside0.mk (hb); have n1_ := Aside0.mk (ho); clear HB; clear HO_3; have HB := n0_; have HO133 := n1_; clear n0_ n1_; clear ho hb hg hat))
                  go_roundg k1
                  case measure => have := HK1.out; omega
                  case rel => exact ⟨(y131), (wrap64 (x4_1 + 1)), (by first | rfl | (simp; done) | (simp [*]; done)), H', ⟨by have := HK1.out; omega⟩, ⟨by (with_reducible repeat (first | apply Kd.R_alloc | apply Kd.R_drewN | apply Kd.R_drew)); exact HO133.out⟩, ⟨by repeat (first | (with_reducible first | exact HB.out | apply below_alloc | apply pw_below_drewN | apply below_drew1) | exact HB.out)⟩⟩
                · rw [if_neg c10] at H
                  exact absurd H (by simp)
              · rw [if_neg c9] at H
                have c9b0 : (x4_1 == (l0.length : Int)) = false := beq_eq_false_iff_ne.mpr c9
                have c9b1 : (x4_1 != (l0.length : Int)) = true := bne_iff_ne.mpr c9
                have H' := Aside0.mk H
                clear H
                have p127 : 0 ≤ ((ji3) : Int) := of_decide_eq_true (by first | (with_reducible assumption) | assumption)
                have q127 : (ji3) < (l0.length : Int) := of_decide_eq_true (by first | (with_reducible assumption) | assumption)
                obtain ⟨ad127, e127, hx127_0⟩ := Kd.at_int HR0.out (ji3) p127 q127
                cases e127
                replace hx127_0 := (HB.out.cell (World.block_lt_of_cell? w _ hx127_0)).trans hx127_0
                replace p127 := eq_true p127
                replace q127 := eq_true q127
                go_wp2
                go_roundg k1
                case measure => have := HK1.out; omega
                case rel => exact ⟨(x3_1), (wrap64 (x4_1 + 1)), (by first | rfl | (simp; done) | (simp [*]; done)), H', ⟨by have := HK1.out; omega⟩, ⟨by (with_reducible repeat (first | apply Kd.R_alloc | apply Kd.R_drewN | apply Kd.R_drew)); exact HO_3.out⟩, ⟨by repeat (first | (with_reducible first | exact HB.out | apply below_alloc | apply pw_below_drewN | apply below_drew1) | exact HB.out)⟩⟩
          · rw [if_neg c5] at H
            exact absurd H (by simp)
        · rw [if_neg c4] at H
          exact absurd H (by simp)
      · rw [if_neg c2] at H
        have c2b0 : decide (x4_1 ≤ (l0.length : Int)) = false := decide_eq_false c2
        clear c2
        by_cases c12 : (l0.length : Int) = 0
        · rw [if_pos c12] at H
          have c12b0 : ((l0.length : Int) == 0) = true := beq_iff_eq.mpr c12
          have c12b1 : ((l0.length : Int) != 0) = false := bne_eq_false_iff_eq.mpr c12
          clear c12
          by_cases c13 : x3_1.length < 17592186044416
          · rw [if_pos c13] at H
            have LMc13 := Aside0.mk c13
            clear c13
            obtain ⟨y134, hy134⟩ : ∃ y_ : List Int, y_ = (x3_1 ++ [0]) := ⟨_, rfl⟩
            replace H : (some y134) = some r := by first | (rw [hy134]; with_reducible exact H) | (have H2_ := (Option.bind_some _ _).symm.trans H; rw [hy134]; with_reducible exact H2_) | (have H2_ := (Option.bind_some _ _).symm.trans H; with_reducible exact H2_) | with_reducible exact H | (rw [hy134]; exact H) | exact H
            have Ny134 := Aside0.mk hy134
            clear hy134
            obtain rfl := Option.some.inj H
            go_wp2_with (first | ((with_reducible refine gate_builtin (b := .append) (xs := #[.tmp 30, .tmp 31]) rfl ?_); (try (refine gate_guard (by rfl) ?_; dsimp only)); at_builtin; refine Kd.R_append (Kd.int .i64) (w0 := w) w.heap.size rfl (.tmp 30) (.tmp 31) 25 3 (.int .i64 0) 8 rfl Tryd.underlying25 info3 rfl (by decide) (by omega) u3 x3_1 0 [.int .i64 0] (fun _ => True) (fun _ => False) rfl rfl ?aP (fun _ hk => hk.elim) ?aF ?aO ?aB ?aS ?aL ?_; (case aP => exact rfl); (case aB => exact (by repeat (first | (with_reducible first | exact HB.out | apply below_alloc | apply pw_below_drewN | apply below_drew1) | exact HB.out))); (case aF => exact (fun _ _ => trivial)); (case aO => exact (by (with_reducible repeat (first | apply Kd.R_alloc | apply Kd.R_drewN | apply Kd.R_drew)); exact HO_3.out)); (case aS => exact (below_size (by repeat (first | (with_reducible first | exact HB.out | apply below_alloc | apply pw_below_drewN | apply below_drew1) | exact HB.out)))); (case aL => have := LMc13.out; omega); intro v135 w14 ho hb hg hat; rw [← Ny134.out] at ho; have n0_ := Aside0.mk (hb); have n1_ := Aside0.mk (ho); clear HB; clear HO_3; have HB := n0_; have HO136 := n1_; clear n0_ n1_; clear ho hb hg hat))
            go_ret
            exact ⟨_, by first | rfl | (simp [errW_none, errW_some] <;> rfl) | (simp [*, errW_none, errW_some] <;> rfl), by (with_reducible repeat (first | apply Kd.R_alloc | apply Kd.R_drewN | apply Kd.R_drew)); exact HO136.out, by repeat (first | (with_reducible first | exact HB.out | apply below_alloc | apply pw_below_drewN | apply below_drew1) | exact HB.out)⟩
          · rw [if_neg c13] at H
            exact absurd H (by simp)
        · rw [if_neg c12] at H
          have c12b0 : ((l0.length : Int) == 0) = false := beq_eq_false_iff_ne.mpr c12
          have c12b1 : ((l0.length : Int) != 0) = true := bne_iff_ne.mpr c12
          have c12b2 : ¬ (l0 = []) := fun h_ => c12 (by rw [h_]; rfl)
          obtain rfl := Option.some.inj H
          go_wp2
          go_ret
          exact ⟨_, by first | rfl | (simp [errW_none, errW_some] <;> rfl) | (simp [*, errW_none, errW_some] <;> rfl), by (with_reducible repeat (first | apply Kd.R_alloc | apply Kd.R_drewN | apply Kd.R_drew)); exact HO_3.out, by repeat (first | (with_reducible first | exact HB.out | apply below_alloc | apply pw_below_drewN | apply below_drew1) | exact HB.out)⟩

/-! ### exegeteref04_place: function 26 -/
def exegeteref04_place.f (l0 : List Int) (a1 : Int) : Option (Bool) := if a1 ≥ 0 then (some (decide (a1 ≤ (l0.length : Int)))) else (some false)
set_option maxHeartbeats 8000000 in
set_option maxRecDepth 100000 in
theorem exegeteref04_place.calls (A0 : Option Addr) (c0 : Nat) (l0 : List Int) (a1 : Int) (r : Bool) (w : World) (hr0 : Kd.C (Kd.int .u8) w A0 l0.length l0) (hc0 : l0.length ≤ c0) (h : exegeteref04_place.f l0 a1 = some r) :
    Calls Tryd.prog 26 #[.slice A0 l0.length c0, .int .i64 a1] w fun e w' => e = .returned (.bool r) ∧ Drawn0 w w' := by
  have HR0 := Aside0.mk hr0
  have HC0 := Aside0.mk hc0
  clear hr0 hc0
  have H : (if a1 ≥ 0 then (some (decide (a1 ≤ (l0.length : Int)))) else (some false)) = some r := h
  clear h
  by_cases c3 : a1 ≥ 0
  · rw [if_pos c3] at H
    have c3b0 : decide (0 ≤ a1) = true := decide_eq_true c3
    clear c3
    obtain rfl := Option.some.inj H
    go_enter Tryd.func26, Tryd.ntmps26
    go_wp2
    go_ret
    exact ⟨by first | rfl | (simp; done) | (simp [*]; done), by repeat (first | exact Drawn0.refl _ | apply Drawn0.step)⟩
  · rw [if_neg c3] at H
    have c3b0 : decide (0 ≤ a1) = false := decide_eq_false c3
    clear c3
    obtain rfl := Option.some.inj H
    go_enter Tryd.func26, Tryd.ntmps26
    go_wp2
    go_ret
    exact ⟨by first | rfl | (simp; done) | (simp [*]; done), by repeat (first | exact Drawn0.refl _ | apply Drawn0.step)⟩

end Go.Proofs.YtahabdogohdjeaaDoor.All
