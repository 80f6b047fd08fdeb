/- Contracts of functions of the program, each for every input, printed for this claim by a program out of the translation, some written by hand. -/
import Derived.Test.YtfcnpoamggbdfaaAllx0
import Derived.Test.YtfcnpoamggbdfaaAllx1
import Derived.Test.YtfcnpoamggbdfaaAllx3
namespace Go.Proofs.Ytfcnpoamggbdfaa.All
open Go.RowKit Go.Proofs.YtfcnpoamggbdfaaW.PrintWords Go.Proofs.YtfcnpoamggbdfaaW.PrintLast Go.Proofs.YtfcnpoamggbdfaaW.PrintMore
attribute [local go_sem] max2_int min2_int max_two min_two max_three min_three max_four min_four   -- for this text's walks alone
set_option linter.unusedVariables false
set_option linter.unusedSimpArgs false

/-! ### exegetelaw01_UtfOrder: function 7 -/
def exegetelaw01_UtfOrder.f (k : Nat) (a0 : Int) (a1 : Int) : Option (Bool) := (exegetelaw01_awake.f k).bind fun t223 => ((utf_Put.f a0).bind fun bt224 => ((utf_Put.f a1).bind fun bt228 => (if t223 = true then (if bt224.2 = true then (if bt228.2 = true then (if ((Op.bytesLess ((strOfNums bt224.1).toList) ((strOfNums bt228.1).toList)) == (decide (a0 < a1))) = true then (if a0 > a1 then (some true) else (some (decide ((bt224.1.length : Int) ≤ (bt228.1.length : Int))))) else (some false)) else (some t223)) else (some t223)) else (some t223))))
theorem exegetelaw01_UtfOrder.mono : ∀ a0 a1 k, LeO (exegetelaw01_UtfOrder.f k a0 a1) (exegetelaw01_UtfOrder.f (k + 1) a0 a1) := by
  intro a0 a1 k
  unfold exegetelaw01_UtfOrder.f
  repeat' first
      | (with_reducible exact exegetelaw01_awake.mono _)
      | (with_reducible exact LeO.refl _)
      | (with_reducible exact LeO.none _)
      | (with_reducible refine LeO.ite ?_ ?_)
      | (with_reducible refine LeO.bind ?_ (fun _ => ?_))
      | exact exegetelaw01_awake.mono _
      | exact LeO.none _
      | refine LeO.ite ?_ ?_
      | refine LeO.bind ?_ (fun _ => ?_)
set_option maxHeartbeats 8000000 in
set_option maxRecDepth 100000 in
theorem exegetelaw01_UtfOrder.calls (k : Nat) (a0 : Int) (a1 : Int) (r : Bool) (w : World) (h : exegetelaw01_UtfOrder.f k a0 a1 = some r) :
    Calls Try.prog 7 #[.int .i64 a0, .int .i64 a1] w fun e w' => e = .returned (.bool r) ∧ Below w.heap.size w w' := by
  have HB := Aside0.mk (Below.refl w.heap.size w)
  have H : ((exegetelaw01_awake.f k).bind fun t223 => ((utf_Put.f a0).bind fun bt224 => ((utf_Put.f a1).bind fun bt228 => (if t223 = true then (if bt224.2 = true then (if bt228.2 = true then (if ((Op.bytesLess ((strOfNums bt224.1).toList) ((strOfNums bt228.1).toList)) == (decide (a0 < a1))) = true then (if a0 > a1 then (some true) else (some (decide ((bt224.1.length : Int) ≤ (bt228.1.length : Int))))) else (some false)) else (some t223)) else (some t223)) else (some t223))))) = some r := h
  clear h
  replace H := Option.bind_eq_some_iff.mp H
  obtain ⟨t223, A30, H⟩ := H
  replace H : ((utf_Put.f a0).bind fun bt224 => ((utf_Put.f a1).bind fun bt228 => (if t223 = true then (if bt224.2 = true then (if bt228.2 = true then (if ((Op.bytesLess ((strOfNums bt224.1).toList) ((strOfNums bt228.1).toList)) == (decide (a0 < a1))) = true then (if a0 > a1 then (some true) else (some (decide ((bt224.1.length : Int) ≤ (bt228.1.length : Int))))) else (some false)) else (some t223)) else (some t223)) else (some t223)))) = some r := H
  have A3 := Aside0.mk A30
  clear A30
  replace H := Option.bind_eq_some_iff.mp H
  obtain ⟨⟨t224, t225⟩, A40, H⟩ := H
  replace H : ((utf_Put.f a1).bind fun bt228 => (if t223 = true then (if t225 = true then (if bt228.2 = true then (if ((Op.bytesLess ((strOfNums t224).toList) ((strOfNums bt228.1).toList)) == (decide (a0 < a1))) = true then (if a0 > a1 then (some true) else (some (decide ((t224.length : Int) ≤ (bt228.1.length : Int))))) else (some false)) else (some t223)) else (some t223)) else (some t223))) = some r := H
  have A4 := Aside0.mk A40
  clear A40
  replace H := Option.bind_eq_some_iff.mp H
  obtain ⟨⟨t228, t229⟩, A50, H⟩ := H
  replace H : (if t223 = true then (if t225 = true then (if t229 = true then (if ((Op.bytesLess ((strOfNums t224).toList) ((strOfNums t228).toList)) == (decide (a0 < a1))) = true then (if a0 > a1 then (some true) else (some (decide ((t224.length : Int) ≤ (t228.length : Int))))) else (some false)) else (some t223)) else (some t223)) else (some t223)) = some r := H
  have A5 := Aside0.mk A50
  clear A50
  by_cases c6 : t223 = true
  · subst c6
    have H1 : (if t225 = true then (if t229 = true then (if ((Op.bytesLess ((strOfNums t224).toList) ((strOfNums t228).toList)) == (decide (a0 < a1))) = true then (if a0 > a1 then (some true) else (some (decide ((t224.length : Int) ≤ (t228.length : Int))))) else (some false)) else (some true)) else (some true)) = some r := by rw [if_pos rfl] at H; exact H
    clear H
    have H := H1
    clear H1
    by_cases c7 : t225 = true
    · subst c7
      have H1 : (if t229 = true then (if ((Op.bytesLess ((strOfNums t224).toList) ((strOfNums t228).toList)) == (decide (a0 < a1))) = true then (if a0 > a1 then (some true) else (some (decide ((t224.length : Int) ≤ (t228.length : Int))))) else (some false)) else (some true)) = some r := by rw [if_pos rfl] at H; exact H
      clear H
      have H := H1
      clear H1
      by_cases c8 : t229 = true
      · subst c8
        have H1 : (if ((Op.bytesLess ((strOfNums t224).toList) ((strOfNums t228).toList)) == (decide (a0 < a1))) = true then (if a0 > a1 then (some true) else (some (decide ((t224.length : Int) ≤ (t228.length : Int))))) else (some false)) = some r := by rw [if_pos rfl] at H; exact H
        clear H
        have H := H1
        clear H1
        by_cases c9 : ((Op.bytesLess ((strOfNums t224).toList) ((strOfNums t228).toList)) == (decide (a0 < a1))) = true
        · rw [if_pos c9] at H
          have c9b0 : ((Op.bytesLess ((strOfNums t224).toList) ((strOfNums t228).toList)) == (decide (a0 < a1))) = true := c9
          (try (have c9b1 : decide ((Op.bytesLess ((strOfNums t224).toList) ((strOfNums t228).toList)) = (decide (a0 < a1))) = true := by simpa using c9))
          (try (have c9b2 : ((Op.bytesLess ((strOfNums t224).toList) ((strOfNums t228).toList)) == (decide (a0 < a1))) = true := by simpa using c9))
          clear c9
          by_cases c10 : a0 > a1
          · rw [if_pos c10] at H
            have c10b0 : decide (a1 < a0) = true := decide_eq_true c10
            clear c10
            obtain rfl := Option.some.inj H
            go_enter Try.func7, Try.ntmps7
            go_wp2_with (first | ((with_reducible refine gate_callee (f := 10) rfl ?_); refine goesL_ (some 10) rfl rfl Try.func10 (by kernel_rfl) rfl #[] rfl (by (try simp only [List.map_toArray, List.map_cons, List.map_nil]); first | done | rfl | (simp only [List.length_drop, List.length_take]; rfl)) ?_; (with_reducible refine (exegetelaw01_awake.calls k  true _ A3.out).mono ?_); rintro e w11 ⟨rfl, hb⟩; refine ⟨_, rfl, ?_⟩; have n0_ := Aside0.mk (below_step (by repeat (first | (with_reducible first | exact HB.out | apply below_alloc | apply pw_below_drewN | apply below_drew1) | exact HB.out)) hb); clear HB; have HB := n0_; clear n0_; (try clear hb); (try clear hb2); (try clear hk); (try clear hi)) | ((with_reducible refine gate_callee (f := 11) rfl ?_); refine goesL_ (some 13) rfl rfl Try.func11 (by kernel_rfl) rfl #[.int .i64 a0] rfl (by (try simp only [List.map_toArray, List.map_cons, List.map_nil]); first | done | rfl | (simp only [List.length_drop, List.length_take]; rfl)) ?_; (with_reducible refine (utf_Put.calls a0 t224 true _ A4.out).mono ?_); rintro e w12 ⟨v226, rfl, ho0, hb⟩; refine ⟨_, rfl, ?_⟩; have n0_ := Aside0.mk (Kd.R_lower ho0 (below_size (by repeat (first | (with_reducible first | exact HB.out | apply below_alloc | apply pw_below_drewN | apply below_drew1) | exact HB.out)))); have n1_ := Aside0.mk (below_step (by repeat (first | (with_reducible first | exact HB.out | apply below_alloc | apply pw_below_drewN | apply below_drew1) | exact HB.out)) hb); clear HB; have HO227 := n0_; have HB := n1_; clear n0_ n1_; (try clear hb); (try clear hb2); (try clear hk); (try clear hi); (try clear ho0)) | ((with_reducible refine gate_callee (f := 11) rfl ?_); refine goesL_ (some 18) rfl rfl Try.func11 (by kernel_rfl) rfl #[.int .i64 a1] rfl (by (try simp only [List.map_toArray, List.map_cons, List.map_nil]); first | done | rfl | (simp only [List.length_drop, List.length_take]; rfl)) ?_; (with_reducible refine (utf_Put.calls a1 t228 true _ A5.out).mono ?_); rintro e w13 ⟨v230, rfl, ho0, hb⟩; refine ⟨_, rfl, ?_⟩; have n0_ := Aside0.mk (Kd.R_elder' (by (with_reducible repeat (first | apply Kd.R_alloc | apply Kd.R_drewN | apply Kd.R_drew)); exact HO227.out) (Kd.R_base ho0) hb); have n1_ := Aside0.mk (Kd.R_lower (Kd.R_new' ho0 (Kd.R_lt (by (with_reducible repeat (first | apply Kd.R_alloc | apply Kd.R_drewN | apply Kd.R_drew)); exact HO227.out))) (below_size (by repeat (first | (with_reducible first | exact HB.out | apply below_alloc | apply pw_below_drewN | apply below_drew1) | exact HB.out)))); have n2_ := Aside0.mk (below_step (by repeat (first | (with_reducible first | exact HB.out | apply below_alloc | apply pw_below_drewN | apply below_drew1) | exact HB.out)) hb); clear HO227; clear HB; have HO227 := n0_; have HO231 := n1_; have HB := n2_; clear n0_ n1_ n2_; (try clear hb); (try clear hb2); (try clear hk); (try clear hi); (try clear ho0); have hcv14 := own_string (P := Try.prog) Try.underlying22 Try.underlying5 Try.underlying9 (Kd.own_of_R HO227.out); have hcvq14 := fun nq_ : Nat => own_string (P := Try.prog) Try.underlying22 Try.underlying5 Try.underlying9 (Kd.own_of_R (Kd.R_drewN HO227.out nq_)); have hcv15 := own_string (P := Try.prog) Try.underlying22 Try.underlying5 Try.underlying9 (Kd.own_of_R HO231.out); have hcvq15 := fun nq_ : Nat => own_string (P := Try.prog) Try.underlying22 Try.underlying5 Try.underlying9 (Kd.own_of_R (Kd.R_drewN HO231.out nq_))))
            go_ret
            exact ⟨by first | rfl | (simp [errW_none, errW_some] <;> rfl) | (simp [*, errW_none, errW_some] <;> rfl), by repeat (first | (with_reducible first | exact HB.out | apply below_alloc | apply pw_below_drewN | apply below_drew1) | exact HB.out)⟩
          · rw [if_neg c10] at H
            have c10b0 : decide (a1 < a0) = false := decide_eq_false c10
            clear c10
            obtain rfl := Option.some.inj H
            go_enter Try.func7, Try.ntmps7
            go_wp2_with (first | ((with_reducible refine gate_callee (f := 10) rfl ?_); refine goesL_ (some 10) rfl rfl Try.func10 (by kernel_rfl) rfl #[] rfl (by (try simp only [List.map_toArray, List.map_cons, List.map_nil]); first | done | rfl | (simp only [List.length_drop, List.length_take]; rfl)) ?_; (with_reducible refine (exegetelaw01_awake.calls k  true _ A3.out).mono ?_); rintro e w16 ⟨rfl, hb⟩; refine ⟨_, rfl, ?_⟩; have n0_ := Aside0.mk (below_step (by repeat (first | (with_reducible first | exact HB.out | apply below_alloc | apply pw_below_drewN | apply below_drew1) | exact HB.out)) hb); clear HB; have HB := n0_; clear n0_; (try clear hb); (try clear hb2); (try clear hk); (try clear hi)) | ((with_reducible refine gate_callee (f := 11) rfl ?_); refine goesL_ (some 13) rfl rfl Try.func11 (by kernel_rfl) rfl #[.int .i64 a0] rfl (by (try simp only [List.map_toArray, List.map_cons, List.map_nil]); first | done | rfl | (simp only [List.length_drop, List.length_take]; rfl)) ?_; (with_reducible refine (utf_Put.calls a0 t224 true _ A4.out).mono ?_); rintro e w17 ⟨v226, rfl, ho0, hb⟩; refine ⟨_, rfl, ?_⟩; have n0_ := Aside0.mk (Kd.R_lower ho0 (below_size (by repeat (first | (with_reducible first | exact HB.out | apply below_alloc | apply pw_below_drewN | apply below_drew1) | exact HB.out)))); have n1_ := Aside0.mk (below_step (by repeat (first | (with_reducible first | exact HB.out | apply below_alloc | apply pw_below_drewN | apply below_drew1) | exact HB.out)) hb); clear HB; have HO227 := n0_; have HB := n1_; clear n0_ n1_; (try clear hb); (try clear hb2); (try clear hk); (try clear hi); (try clear ho0)) | ((with_reducible refine gate_callee (f := 11) rfl ?_); refine goesL_ (some 18) rfl rfl Try.func11 (by kernel_rfl) rfl #[.int .i64 a1] rfl (by (try simp only [List.map_toArray, List.map_cons, List.map_nil]); first | done | rfl | (simp only [List.length_drop, List.length_take]; rfl)) ?_; (with_reducible refine (utf_Put.calls a1 t228 true _ A5.out).mono ?_); rintro e w18 ⟨v230, rfl, ho0, hb⟩; refine ⟨_, rfl, ?_⟩; have n0_ := Aside0.mk (Kd.R_elder' (by (with_reducible repeat (first | apply Kd.R_alloc | apply Kd.R_drewN | apply Kd.R_drew)); exact HO227.out) (Kd.R_base ho0) hb); have n1_ := Aside0.mk (Kd.R_lower (Kd.R_new' ho0 (Kd.R_lt (by (with_reducible repeat (first | apply Kd.R_alloc | apply Kd.R_drewN | apply Kd.R_drew)); exact HO227.out))) (below_size (by repeat (first | (with_reducible first | exact HB.out | apply below_alloc | apply pw_below_drewN | apply below_drew1) | exact HB.out)))); have n2_ := Aside0.mk (below_step (by repeat (first | (with_reducible first | exact HB.out | apply below_alloc | apply pw_below_drewN | apply below_drew1) | exact HB.out)) hb); clear HO227; clear HB; have HO227 := n0_; have HO231 := n1_; have HB := n2_; clear n0_ n1_ n2_; (try clear hb); (try clear hb2); (try clear hk); (try clear hi); (try clear ho0); have hcv19 := own_string (P := Try.prog) Try.underlying22 Try.underlying5 Try.underlying9 (Kd.own_of_R HO227.out); have hcvq19 := fun nq_ : Nat => own_string (P := Try.prog) Try.underlying22 Try.underlying5 Try.underlying9 (Kd.own_of_R (Kd.R_drewN HO227.out nq_)); have hcv20 := own_string (P := Try.prog) Try.underlying22 Try.underlying5 Try.underlying9 (Kd.own_of_R HO231.out); have hcvq20 := fun nq_ : Nat => own_string (P := Try.prog) Try.underlying22 Try.underlying5 Try.underlying9 (Kd.own_of_R (Kd.R_drewN HO231.out nq_)); obtain ⟨Ao21, co21, eo21⟩ := Kd.R_slice HO227.out; subst eo21; obtain ⟨Ao22, co22, eo22⟩ := Kd.R_slice HO231.out; subst eo22))
            go_ret
            exact ⟨by first | rfl | (simp [errW_none, errW_some] <;> rfl) | (simp [*, errW_none, errW_some] <;> rfl), by repeat (first | (with_reducible first | exact HB.out | apply below_alloc | apply pw_below_drewN | apply below_drew1) | exact HB.out)⟩
        · rw [if_neg c9] at H
          have c9b0 : ((Op.bytesLess ((strOfNums t224).toList) ((strOfNums t228).toList)) == (decide (a0 < a1))) = false := by simpa using c9
          (try (have c9b1 : decide ((Op.bytesLess ((strOfNums t224).toList) ((strOfNums t228).toList)) = (decide (a0 < a1))) = false := by simpa using c9))
          (try (have c9b2 : ((Op.bytesLess ((strOfNums t224).toList) ((strOfNums t228).toList)) == (decide (a0 < a1))) = false := by simpa using c9))
          (try (have c9b3 : ¬ ((Op.bytesLess ((strOfNums t224).toList) ((strOfNums t228).toList)) = (decide (a0 < a1))) := by simpa using c9))
          clear c9
          obtain rfl := Option.some.inj H
          go_enter Try.func7, Try.ntmps7
          go_wp2_with (first | ((with_reducible refine gate_callee (f := 10) rfl ?_); refine goesL_ (some 10) rfl rfl Try.func10 (by kernel_rfl) rfl #[] rfl (by (try simp only [List.map_toArray, List.map_cons, List.map_nil]); first | done | rfl | (simp only [List.length_drop, List.length_take]; rfl)) ?_; (with_reducible refine (exegetelaw01_awake.calls k  true _ A3.out).mono ?_); rintro e w23 ⟨rfl, hb⟩; refine ⟨_, rfl, ?_⟩; have n0_ := Aside0.mk (below_step (by repeat (first | (with_reducible first | exact HB.out | apply below_alloc | apply pw_below_drewN | apply below_drew1) | exact HB.out)) hb); clear HB; have HB := n0_; clear n0_; (try clear hb); (try clear hb2); (try clear hk); (try clear hi)) | ((with_reducible refine gate_callee (f := 11) rfl ?_); refine goesL_ (some 13) rfl rfl Try.func11 (by kernel_rfl) rfl #[.int .i64 a0] rfl (by (try simp only [List.map_toArray, List.map_cons, List.map_nil]); first | done | rfl | (simp only [List.length_drop, List.length_take]; rfl)) ?_; (with_reducible refine (utf_Put.calls a0 t224 true _ A4.out).mono ?_); rintro e w24 ⟨v226, rfl, ho0, hb⟩; refine ⟨_, rfl, ?_⟩; have n0_ := Aside0.mk (Kd.R_lower ho0 (below_size (by repeat (first | (with_reducible first | exact HB.out | apply below_alloc | apply pw_below_drewN | apply below_drew1) | exact HB.out)))); have n1_ := Aside0.mk (below_step (by repeat (first | (with_reducible first | exact HB.out | apply below_alloc | apply pw_below_drewN | apply below_drew1) | exact HB.out)) hb); clear HB; have HO227 := n0_; have HB := n1_; clear n0_ n1_; (try clear hb); (try clear hb2); (try clear hk); (try clear hi); (try clear ho0)) | ((with_reducible refine gate_callee (f := 11) rfl ?_); refine goesL_ (some 18) rfl rfl Try.func11 (by kernel_rfl) rfl #[.int .i64 a1] rfl (by (try simp only [List.map_toArray, List.map_cons, List.map_nil]); first | done | rfl | (simp only [List.length_drop, List.length_take]; rfl)) ?_; (with_reducible refine (utf_Put.calls a1 t228 true _ A5.out).mono ?_); rintro e w25 ⟨v230, rfl, ho0, hb⟩; refine ⟨_, rfl, ?_⟩; have n0_ := Aside0.mk (Kd.R_elder' (by (with_reducible repeat (first | apply Kd.R_alloc | apply Kd.R_drewN | apply Kd.R_drew)); exact HO227.out) (Kd.R_base ho0) hb); have n1_ := Aside0.mk (Kd.R_lower (Kd.R_new' ho0 (Kd.R_lt (by (with_reducible repeat (first | apply Kd.R_alloc | apply Kd.R_drewN | apply Kd.R_drew)); exact HO227.out))) (below_size (by repeat (first | (with_reducible first | exact HB.out | apply below_alloc | apply pw_below_drewN | apply below_drew1) | exact HB.out)))); have n2_ := Aside0.mk (below_step (by repeat (first | (with_reducible first | exact HB.out | apply below_alloc | apply pw_below_drewN | apply below_drew1) | exact HB.out)) hb); clear HO227; clear HB; have HO227 := n0_; have HO231 := n1_; have HB := n2_; clear n0_ n1_ n2_; (try clear hb); (try clear hb2); (try clear hk); (try clear hi); (try clear ho0); have hcv26 := own_string (P := Try.prog) Try.underlying22 Try.underlying5 Try.underlying9 (Kd.own_of_R HO227.out); have hcvq26 := fun nq_ : Nat => own_string (P := Try.prog) Try.underlying22 Try.underlying5 Try.underlying9 (Kd.own_of_R (Kd.R_drewN HO227.out nq_)); have hcv27 := own_string (P := Try.prog) Try.underlying22 Try.underlying5 Try.underlying9 (Kd.own_of_R HO231.out); have hcvq27 := fun nq_ : Nat => own_string (P := Try.prog) Try.underlying22 Try.underlying5 Try.underlying9 (Kd.own_of_R (Kd.R_drewN HO231.out nq_))))
          go_ret
          exact ⟨by first | rfl | (simp [errW_none, errW_some] <;> rfl) | (simp [*, errW_none, errW_some] <;> rfl), by repeat (first | (with_reducible first | exact HB.out | apply below_alloc | apply pw_below_drewN | apply below_drew1) | exact HB.out)⟩
      · replace c8 := Bool.eq_false_iff.mpr c8
        subst c8
        have H1 : (some true) = some r := by rw [if_neg (show ¬ (false = true) by decide)] at H; exact H
        clear H
        have H := H1
        clear H1
        obtain rfl := Option.some.inj H
        go_enter Try.func7, Try.ntmps7
        go_wp2_with (first | ((with_reducible refine gate_callee (f := 10) rfl ?_); refine goesL_ (some 10) rfl rfl Try.func10 (by kernel_rfl) rfl #[] rfl (by (try simp only [List.map_toArray, List.map_cons, List.map_nil]); first | done | rfl | (simp only [List.length_drop, List.length_take]; rfl)) ?_; (with_reducible refine (exegetelaw01_awake.calls k  true _ A3.out).mono ?_); rintro e w28 ⟨rfl, hb⟩; refine ⟨_, rfl, ?_⟩; have n0_ := Aside0.mk (below_step (by repeat (first | (with_reducible first | exact HB.out | apply below_alloc | apply pw_below_drewN | apply below_drew1) | exact HB.out)) hb); clear HB; have HB := n0_; clear n0_; (try clear hb); (try clear hb2); (try clear hk); (try clear hi)) | ((with_reducible refine gate_callee (f := 11) rfl ?_); refine goesL_ (some 13) rfl rfl Try.func11 (by kernel_rfl) rfl #[.int .i64 a0] rfl (by (try simp only [List.map_toArray, List.map_cons, List.map_nil]); first | done | rfl | (simp only [List.length_drop, List.length_take]; rfl)) ?_; (with_reducible refine (utf_Put.calls a0 t224 true _ A4.out).mono ?_); rintro e w29 ⟨v226, rfl, ho0, hb⟩; refine ⟨_, rfl, ?_⟩; have n0_ := Aside0.mk (Kd.R_lower ho0 (below_size (by repeat (first | (with_reducible first | exact HB.out | apply below_alloc | apply pw_below_drewN | apply below_drew1) | exact HB.out)))); have n1_ := Aside0.mk (below_step (by repeat (first | (with_reducible first | exact HB.out | apply below_alloc | apply pw_below_drewN | apply below_drew1) | exact HB.out)) hb); clear HB; have HO227 := n0_; have HB := n1_; clear n0_ n1_; (try clear hb); (try clear hb2); (try clear hk); (try clear hi); (try clear ho0)) | ((with_reducible refine gate_callee (f := 11) rfl ?_); refine goesL_ (some 18) rfl rfl Try.func11 (by kernel_rfl) rfl #[.int .i64 a1] rfl (by (try simp only [List.map_toArray, List.map_cons, List.map_nil]); first | done | rfl | (simp only [List.length_drop, List.length_take]; rfl)) ?_; (with_reducible refine (utf_Put.calls a1 t228 false _ A5.out).mono ?_); rintro e w30 ⟨v230, rfl, ho0, hb⟩; refine ⟨_, rfl, ?_⟩; have n0_ := Aside0.mk (Kd.R_elder' (by (with_reducible repeat (first | apply Kd.R_alloc | apply Kd.R_drewN | apply Kd.R_drew)); exact HO227.out) (Kd.R_base ho0) hb); have n1_ := Aside0.mk (Kd.R_lower (Kd.R_new' ho0 (Kd.R_lt (by (with_reducible repeat (first | apply Kd.R_alloc | apply Kd.R_drewN | apply Kd.R_drew)); exact HO227.out))) (below_size (by repeat (first | (with_reducible first | exact HB.out | apply below_alloc | apply pw_below_drewN | apply below_drew1) | exact HB.out)))); have n2_ := Aside0.mk (below_step (by repeat (first | (with_reducible first | exact HB.out | apply below_alloc | apply pw_below_drewN | apply below_drew1) | exact HB.out)) hb); clear HO227; clear HB; have HO227 := n0_; have HO231 := n1_; have HB := n2_; clear n0_ n1_ n2_; (try clear hb); (try clear hb2); (try clear hk); (try clear hi); (try clear ho0)))
        go_ret
        exact ⟨by first | rfl | (simp [errW_none, errW_some] <;> rfl) | (simp [*, errW_none, errW_some] <;> rfl), by repeat (first | (with_reducible first | exact HB.out | apply below_alloc | apply pw_below_drewN | apply below_drew1) | exact HB.out)⟩
    · replace c7 := Bool.eq_false_iff.mpr c7
      subst c7
      have H1 : (some true) = some r := by rw [if_neg (show ¬ (false = true) by decide)] at H; exact H
      clear H
      have H := H1
      clear H1
      obtain rfl := Option.some.inj H
      go_enter Try.func7, Try.ntmps7
      go_wp2_with (first | ((with_reducible refine gate_callee (f := 10) rfl ?_); refine goesL_ (some 10) rfl rfl Try.func10 (by kernel_rfl) rfl #[] rfl (by (try simp only [List.map_toArray, List.map_cons, List.map_nil]); first | done | rfl | (simp only [List.length_drop, List.length_take]; rfl)) ?_; (with_reducible refine (exegetelaw01_awake.calls k  true _ A3.out).mono ?_); rintro e w31 ⟨rfl, hb⟩; refine ⟨_, rfl, ?_⟩; have n0_ := Aside0.mk (below_step (by repeat (first | (with_reducible first | exact HB.out | apply below_alloc | apply pw_below_drewN | apply below_drew1) | exact HB.out)) hb); clear HB; have HB := n0_; clear n0_; (try clear hb); (try clear hb2); (try clear hk); (try clear hi)) | ((with_reducible refine gate_callee (f := 11) rfl ?_); refine goesL_ (some 13) rfl rfl Try.func11 (by kernel_rfl) rfl #[.int .i64 a0] rfl (by (try simp only [List.map_toArray, List.map_cons, List.map_nil]); first | done | rfl | (simp only [List.length_drop, List.length_take]; rfl)) ?_; (with_reducible refine (utf_Put.calls a0 t224 false _ A4.out).mono ?_); rintro e w32 ⟨v226, rfl, ho0, hb⟩; refine ⟨_, rfl, ?_⟩; have n0_ := Aside0.mk (Kd.R_lower ho0 (below_size (by repeat (first | (with_reducible first | exact HB.out | apply below_alloc | apply pw_below_drewN | apply below_drew1) | exact HB.out)))); have n1_ := Aside0.mk (below_step (by repeat (first | (with_reducible first | exact HB.out | apply below_alloc | apply pw_below_drewN | apply below_drew1) | exact HB.out)) hb); clear HB; have HO227 := n0_; have HB := n1_; clear n0_ n1_; (try clear hb); (try clear hb2); (try clear hk); (try clear hi); (try clear ho0)) | ((with_reducible refine gate_callee (f := 11) rfl ?_); refine goesL_ (some 18) rfl rfl Try.func11 (by kernel_rfl) rfl #[.int .i64 a1] rfl (by (try simp only [List.map_toArray, List.map_cons, List.map_nil]); first | done | rfl | (simp only [List.length_drop, List.length_take]; rfl)) ?_; (with_reducible refine (utf_Put.calls a1 t228 t229 _ A5.out).mono ?_); rintro e w33 ⟨v230, rfl, ho0, hb⟩; refine ⟨_, rfl, ?_⟩; have n0_ := Aside0.mk (Kd.R_elder' (by (with_reducible repeat (first | apply Kd.R_alloc | apply Kd.R_drewN | apply Kd.R_drew)); exact HO227.out) (Kd.R_base ho0) hb); have n1_ := Aside0.mk (Kd.R_lower (Kd.R_new' ho0 (Kd.R_lt (by (with_reducible repeat (first | apply Kd.R_alloc | apply Kd.R_drewN | apply Kd.R_drew)); exact HO227.out))) (below_size (by repeat (first | (with_reducible first | exact HB.out | apply below_alloc | apply pw_below_drewN | apply below_drew1) | exact HB.out)))); have n2_ := Aside0.mk (below_step (by repeat (first | (with_reducible first | exact HB.out | apply below_alloc | apply pw_below_drewN | apply below_drew1) | exact HB.out)) hb); clear HO227; clear HB; have HO227 := n0_; have HO231 := n1_; have HB := n2_; clear n0_ n1_ n2_; (try clear hb); (try clear hb2); (try clear hk); (try clear hi); (try clear ho0)))
      go_ret
      exact ⟨by first | rfl | (simp [errW_none, errW_some] <;> rfl) | (simp [*, errW_none, errW_some] <;> rfl), by repeat (first | (with_reducible first | exact HB.out | apply below_alloc | apply pw_below_drewN | apply below_drew1) | exact HB.out)⟩
  · replace c6 := Bool.eq_false_iff.mpr c6
    subst c6
    have H1 : (some false) = some r := by rw [if_neg (show ¬ (false = true) by decide)] at H; exact H
    clear H
    have H := H1
    clear H1
    obtain rfl := Option.some.inj H
    go_enter Try.func7, Try.ntmps7
    go_wp2_with (first | ((with_reducible refine gate_callee (f := 10) rfl ?_); refine goesL_ (some 10) rfl rfl Try.func10 (by kernel_rfl) rfl #[] rfl (by (try simp only [List.map_toArray, List.map_cons, List.map_nil]); first | done | rfl | (simp only [List.length_drop, List.length_take]; rfl)) ?_; (with_reducible refine (exegetelaw01_awake.calls k  false _ A3.out).mono ?_); rintro e w34 ⟨rfl, hb⟩; refine ⟨_, rfl, ?_⟩; have n0_ := Aside0.mk (below_step (by repeat (first | (with_reducible first | exact HB.out | apply below_alloc | apply pw_below_drewN | apply below_drew1) | exact HB.out)) hb); clear HB; have HB := n0_; clear n0_; (try clear hb); (try clear hb2); (try clear hk); (try clear hi)) | ((with_reducible refine gate_callee (f := 11) rfl ?_); refine goesL_ (some 13) rfl rfl Try.func11 (by kernel_rfl) rfl #[.int .i64 a0] rfl (by (try simp only [List.map_toArray, List.map_cons, List.map_nil]); first | done | rfl | (simp only [List.length_drop, List.length_take]; rfl)) ?_; (with_reducible refine (utf_Put.calls a0 t224 t225 _ A4.out).mono ?_); rintro e w35 ⟨v226, rfl, ho0, hb⟩; refine ⟨_, rfl, ?_⟩; have n0_ := Aside0.mk (Kd.R_lower ho0 (below_size (by repeat (first | (with_reducible first | exact HB.out | apply below_alloc | apply pw_below_drewN | apply below_drew1) | exact HB.out)))); have n1_ := Aside0.mk (below_step (by repeat (first | (with_reducible first | exact HB.out | apply below_alloc | apply pw_below_drewN | apply below_drew1) | exact HB.out)) hb); clear HB; have HO227 := n0_; have HB := n1_; clear n0_ n1_; (try clear hb); (try clear hb2); (try clear hk); (try clear hi); (try clear ho0)) | ((with_reducible refine gate_callee (f := 11) rfl ?_); refine goesL_ (some 18) rfl rfl Try.func11 (by kernel_rfl) rfl #[.int .i64 a1] rfl (by (try simp only [List.map_toArray, List.map_cons, List.map_nil]); first | done | rfl | (simp only [List.length_drop, List.length_take]; rfl)) ?_; (with_reducible refine (utf_Put.calls a1 t228 t229 _ A5.out).mono ?_); rintro e w36 ⟨v230, rfl, ho0, hb⟩; refine ⟨_, rfl, ?_⟩; have n0_ := Aside0.mk (Kd.R_elder' (by (with_reducible repeat (first | apply Kd.R_alloc | apply Kd.R_drewN | apply Kd.R_drew)); exact HO227.out) (Kd.R_base ho0) hb); have n1_ := Aside0.mk (Kd.R_lower (Kd.R_new' ho0 (Kd.R_lt (by (with_reducible repeat (first | apply Kd.R_alloc | apply Kd.R_drewN | apply Kd.R_drew)); exact HO227.out))) (below_size (by repeat (first | (with_reducible first | exact HB.out | apply below_alloc | apply pw_below_drewN | apply below_drew1) | exact HB.out)))); have n2_ := Aside0.mk (below_step (by repeat (first | (with_reducible first | exact HB.out | apply below_alloc | apply pw_below_drewN | apply below_drew1) | exact HB.out)) hb); clear HO227; clear HB; have HO227 := n0_; have HO231 := n1_; have HB := n2_; clear n0_ n1_ n2_; (try clear hb); (try clear hb2); (try clear hk); (try clear hi); (try clear ho0)))
    go_ret
    exact ⟨by first | rfl | (simp [errW_none, errW_some] <;> rfl) | (simp [*, errW_none, errW_some] <;> rfl), by repeat (first | (with_reducible first | exact HB.out | apply below_alloc | apply pw_below_drewN | apply below_drew1) | exact HB.out)⟩

/-- THE ONE PURE STATEMENT of exegetelaw01_UtfOrder: yours. -/
def exegetelaw01_UtfOrder.Pure : Prop := ∀ (a0 : Int) (a1 : Int), (Lit.int .i64 a0).wf = true → (Lit.int .i64 a1).wf = true → ∃ k, exegetelaw01_UtfOrder.f k a0 a1 = some true
theorem exegetelaw01_UtfOrder.walk (P : exegetelaw01_UtfOrder.Pure) (a0 : Int) (a1 : Int) (w : World) (w0 : (Lit.int .i64 a0).wf = true) (w1 : (Lit.int .i64 a1).wf = true) :
    Calls Try.prog 7 #[.int .i64 a0, .int .i64 a1] w fun e w' => e = .returned (.bool true) ∧ Below w.heap.size w w' := by
  obtain ⟨k, h⟩ := P a0 a1 w0 w1
  refine (exegetelaw01_UtfOrder.calls k a0 a1 true w h).mono ?_
  rintro e w' ⟨rfl, hd⟩
  exact ⟨rfl, hd⟩

/-! ### exegetelaw01_UtfCut: function 8 -/
def exegetelaw01_UtfCut.j0 : Nat → Int → Bool → List Int → Bool → Option (Bool)
  | 0, _, _, _, _ => none
  | k + 1, x1, x5, x6, x31 => if x31 = true then (some x5) else (if 0 ≤ x1 then (if x1 ≤ (x6.length : Int) then ((utf_Next.f (x6.take (x1 : Int).toNat) 0).bind fun bt241 => (if bt241.1 = (-1) then (if bt241.2 = 1 then ((utf_Units.f k (x6.take (x1 : Int).toNat)).bind fun t247 => (some (t247 == x1))) else (some false)) else (some false))) else (none)) else (none))
def exegetelaw01_UtfCut.f (k : Nat) (a0 : Int) (a1 : Int) : Option (Bool) := (exegetelaw01_awake.f k).bind fun t232 => ((utf_Put.f a0).bind fun bt233 => (if t232 = true then (if bt233.2 = true then (if a1 < 1 then (exegetelaw01_UtfCut.j0 k a1 t232 bt233.1 true) else (exegetelaw01_UtfCut.j0 k a1 t232 bt233.1 (decide (a1 ≥ (bt233.1.length : Int))))) else (exegetelaw01_UtfCut.j0 k a1 t232 bt233.1 true)) else (exegetelaw01_UtfCut.j0 k a1 t232 bt233.1 true)))
theorem exegetelaw01_UtfCut.mono_l : ∀ k, (∀ y0 y1 y2 y3, LeO (exegetelaw01_UtfCut.j0 k y0 y1 y2 y3) (exegetelaw01_UtfCut.j0 (k + 1) y0 y1 y2 y3))
  | 0 => fun _ _ _ _ r h => by simp [exegetelaw01_UtfCut.j0] at h
  | k + 1 => by
    have ih0 := exegetelaw01_UtfCut.mono_l k
    · intro y0 y1 y2 y3
      unfold exegetelaw01_UtfCut.j0
      repeat' first
      | (with_reducible exact ih0 _ _ _ _)
      | (with_reducible exact exegetelaw01_awake.mono _)
      | (with_reducible exact utf_Units.mono _ _)
      | (with_reducible exact LeO.refl _)
      | (with_reducible exact LeO.none _)
      | (with_reducible refine LeO.ite ?_ ?_)
      | (with_reducible refine LeO.bind ?_ (fun _ => ?_))
      | exact ih0 _ _ _ _
      | exact exegetelaw01_awake.mono _
      | exact utf_Units.mono _ _
      | exact LeO.none _
      | refine LeO.ite ?_ ?_
      | refine LeO.bind ?_ (fun _ => ?_)
theorem exegetelaw01_UtfCut.mono : ∀ a0 a1 k, LeO (exegetelaw01_UtfCut.f k a0 a1) (exegetelaw01_UtfCut.f (k + 1) a0 a1) := by
  intro a0 a1 k
  have ih0 := exegetelaw01_UtfCut.mono_l k
  unfold exegetelaw01_UtfCut.f
  repeat' first
      | (with_reducible exact ih0 _ _ _ _)
      | (with_reducible exact exegetelaw01_awake.mono _)
      | (with_reducible exact utf_Units.mono _ _)
      | (with_reducible exact LeO.refl _)
      | (with_reducible exact LeO.none _)
      | (with_reducible refine LeO.ite ?_ ?_)
      | (with_reducible refine LeO.bind ?_ (fun _ => ?_))
      | exact ih0 _ _ _ _
      | exact exegetelaw01_awake.mono _
      | exact utf_Units.mono _ _
      | exact LeO.none _
      | refine LeO.ite ?_ ?_
      | refine LeO.bind ?_ (fun _ => ?_)
set_option maxHeartbeats 8000000 in
set_option maxRecDepth 100000 in
theorem exegetelaw01_UtfCut.calls (k : Nat) (a0 : Int) (a1 : Int) (r : Bool) (w : World) (h : exegetelaw01_UtfCut.f k a0 a1 = some r) :
    Calls Try.prog 8 #[.int .i64 a0, .int .i64 a1] w fun e w' => e = .returned (.bool r) ∧ Below w.heap.size w w' := by
  have HB := Aside0.mk (Below.refl w.heap.size w)
  have H : ((exegetelaw01_awake.f k).bind fun t232 => ((utf_Put.f a0).bind fun bt233 => (if t232 = true then (if bt233.2 = true then (if a1 < 1 then (exegetelaw01_UtfCut.j0 k a1 t232 bt233.1 true) else (exegetelaw01_UtfCut.j0 k a1 t232 bt233.1 (decide (a1 ≥ (bt233.1.length : Int))))) else (exegetelaw01_UtfCut.j0 k a1 t232 bt233.1 true)) else (exegetelaw01_UtfCut.j0 k a1 t232 bt233.1 true)))) = some r := h
  clear h
  replace H := Option.bind_eq_some_iff.mp H
  obtain ⟨t232, A30, H⟩ := H
  replace H : ((utf_Put.f a0).bind fun bt233 => (if t232 = true then (if bt233.2 = true then (if a1 < 1 then (exegetelaw01_UtfCut.j0 k a1 t232 bt233.1 true) else (exegetelaw01_UtfCut.j0 k a1 t232 bt233.1 (decide (a1 ≥ (bt233.1.length : Int))))) else (exegetelaw01_UtfCut.j0 k a1 t232 bt233.1 true)) else (exegetelaw01_UtfCut.j0 k a1 t232 bt233.1 true))) = some r := H
  have A3 := Aside0.mk A30
  clear A30
  replace H := Option.bind_eq_some_iff.mp H
  obtain ⟨⟨t233, t234⟩, A40, H⟩ := H
  replace H : (if t232 = true then (if t234 = true then (if a1 < 1 then (exegetelaw01_UtfCut.j0 k a1 t232 t233 true) else (exegetelaw01_UtfCut.j0 k a1 t232 t233 (decide (a1 ≥ (t233.length : Int))))) else (exegetelaw01_UtfCut.j0 k a1 t232 t233 true)) else (exegetelaw01_UtfCut.j0 k a1 t232 t233 true)) = some r := H
  have A4 := Aside0.mk A40
  clear A40
  have HC5 := Aside0.mk H
  clear H
  go_enter Try.func8, Try.ntmps8
  go_upto_region 3 with (first | ((with_reducible refine gate_callee (f := 10) rfl ?_); refine goesL_ (some 10) rfl rfl Try.func10 (by kernel_rfl) rfl #[] rfl (by (try simp only [List.map_toArray, List.map_cons, List.map_nil]); first | done | rfl | (simp only [List.length_drop, List.length_take]; rfl)) ?_; (with_reducible refine (exegetelaw01_awake.calls k  t232 _ A3.out).mono ?_); rintro e w6 ⟨rfl, hb⟩; refine ⟨_, rfl, ?_⟩; have n0_ := Aside0.mk (below_step (by repeat (first | (with_reducible first | exact HB.out | apply below_alloc | apply pw_below_drewN | apply below_drew1) | exact HB.out)) hb); clear HB; have HB := n0_; clear n0_; (try clear hb); (try clear hb2); (try clear hk); (try clear hi)) | ((with_reducible refine gate_callee (f := 11) rfl ?_); refine goesL_ (some 13) rfl rfl Try.func11 (by kernel_rfl) rfl #[.int .i64 a0] rfl (by (try simp only [List.map_toArray, List.map_cons, List.map_nil]); first | done | rfl | (simp only [List.length_drop, List.length_take]; rfl)) ?_; (with_reducible refine (utf_Put.calls a0 t233 t234 _ A4.out).mono ?_); rintro e w7 ⟨v235, rfl, ho0, hb⟩; refine ⟨_, rfl, ?_⟩; have n0_ := Aside0.mk (Kd.R_lower ho0 (below_size (by repeat (first | (with_reducible first | exact HB.out | apply below_alloc | apply pw_below_drewN | apply below_drew1) | exact HB.out)))); have n1_ := Aside0.mk (below_step (by repeat (first | (with_reducible first | exact HB.out | apply below_alloc | apply pw_below_drewN | apply below_drew1) | exact HB.out)) hb); clear HB; have HO236 := n0_; have HB := n1_; clear n0_ n1_; (try clear hb); (try clear hb2); (try clear hk); (try clear hi); (try clear ho0)))
  (try simp only [Act.put, List.setIfInBounds_toArray, List.set_cons_zero, List.set_cons_succ])
  go_cut [31] (fun v31 wc => ∃ (kq : Nat) (x31_4 : Bool), v31 = .bool x31_4 ∧ Aside0 (exegetelaw01_UtfCut.j0 kq a1 t232 t233 x31_4 = some r) ∧ Aside0 (kq ≤ k) ∧ Aside0 (Kd.R (Kd.int .u8) 5 wc w.heap.size (fun _ => True) v235 t233) ∧ Aside0 (Below w.heap.size w wc))
  case first =>
    have H := HC5.out
    clear HC5
    by_cases c8 : t232 = true
    · subst c8
      have H1 : (if t234 = true then (if a1 < 1 then (exegetelaw01_UtfCut.j0 k a1 true t233 true) else (exegetelaw01_UtfCut.j0 k a1 true t233 (decide (a1 ≥ (t233.length : Int))))) else (exegetelaw01_UtfCut.j0 k a1 true t233 true)) = some r := by rw [if_pos rfl] at H; exact H
      clear H
      have H := H1
      clear H1
      by_cases c9 : t234 = true
      · subst c9
        have H1 : (if a1 < 1 then (exegetelaw01_UtfCut.j0 k a1 true t233 true) else (exegetelaw01_UtfCut.j0 k a1 true t233 (decide (a1 ≥ (t233.length : Int))))) = some r := by rw [if_pos rfl] at H; exact H
        clear H
        have H := H1
        clear H1
        by_cases c10 : a1 < 1
        · rw [if_pos c10] at H
          have c10b0 : decide (a1 < 1) = true := decide_eq_true c10
          clear c10
          (first | rw [c10b0] | (simp only [i64_w, i32_w]; rw [c10b0]) | skip)
          have H' := Aside0.mk H
          clear H
          go_wp2
          go_meet
          case rel => exact ⟨_, (true), (by first | rfl | (simp; done) | (simp [*]; done)), H', ⟨by first | omega | exact Nat.le_refl _⟩, ⟨by (with_reducible repeat (first | apply Kd.R_alloc | apply Kd.R_drewN | apply Kd.R_drew)); exact HO236.out⟩, ⟨by repeat (first | (with_reducible first | exact HB.out | apply below_alloc | apply pw_below_drewN | apply below_drew1) | exact HB.out)⟩⟩
        · rw [if_neg c10] at H
          have c10b0 : decide (a1 < 1) = false := decide_eq_false c10
          clear c10
          (first | rw [c10b0] | (simp only [i64_w, i32_w]; rw [c10b0]) | skip)
          have H' := Aside0.mk H
          clear H
          obtain ⟨Ao11, co11, eo11⟩ := Kd.R_slice HO236.out
          subst eo11
          go_wp2
          go_meet
          case rel => exact ⟨_, (decide (a1 ≥ (t233.length : Int))), (by first | rfl | (simp; done) | (simp [*]; done)), H', ⟨by first | omega | exact Nat.le_refl _⟩, ⟨by (with_reducible repeat (first | apply Kd.R_alloc | apply Kd.R_drewN | apply Kd.R_drew)); exact HO236.out⟩, ⟨by repeat (first | (with_reducible first | exact HB.out | apply below_alloc | apply pw_below_drewN | apply below_drew1) | exact HB.out)⟩⟩
      · replace c9 := Bool.eq_false_iff.mpr c9
        subst c9
        have H1 : (exegetelaw01_UtfCut.j0 k a1 true t233 true) = some r := by rw [if_neg (show ¬ (false = true) by decide)] at H; exact H
        clear H
        have H := H1
        clear H1
        have H' := Aside0.mk H
        clear H
        go_wp2
        go_meet
        case rel => exact ⟨_, (true), (by first | rfl | (simp; done) | (simp [*]; done)), H', ⟨by first | omega | exact Nat.le_refl _⟩, ⟨by (with_reducible repeat (first | apply Kd.R_alloc | apply Kd.R_drewN | apply Kd.R_drew)); exact HO236.out⟩, ⟨by repeat (first | (with_reducible first | exact HB.out | apply below_alloc | apply pw_below_drewN | apply below_drew1) | exact HB.out)⟩⟩
    · replace c8 := Bool.eq_false_iff.mpr c8
      subst c8
      have H1 : (exegetelaw01_UtfCut.j0 k a1 false t233 true) = some r := by rw [if_neg (show ¬ (false = true) by decide)] at H; exact H
      clear H
      have H := H1
      clear H1
      have H' := Aside0.mk H
      clear H
      go_wp2
      go_meet
      case rel => exact ⟨_, (true), (by first | rfl | (simp; done) | (simp [*]; done)), H', ⟨by first | omega | exact Nat.le_refl _⟩, ⟨by (with_reducible repeat (first | apply Kd.R_alloc | apply Kd.R_drewN | apply Kd.R_drew)); exact HO236.out⟩, ⟨by repeat (first | (with_reducible first | exact HB.out | apply below_alloc | apply pw_below_drewN | apply below_drew1) | exact HB.out)⟩⟩
  case rest =>
    clear HC5
    try clear c1
    try clear p2
    try clear c8
    try clear c9
    try clear c10
    try clear c10b0
    try clear c11
    obtain ⟨kq, x31_4, rfl, HA, HJ4, HO_6, HB⟩ := hcut
    cases kq with
    | zero => exact absurd HA.out (by simp [exegetelaw01_UtfCut.j0])
    | succ kj4 =>
      have H := HA.out
      clear HA
      simp only [exegetelaw01_UtfCut.j0] at H
      by_cases c12 : x31_4 = true
      · subst c12
        have H1 : (some t232) = some r := by rw [if_pos rfl] at H; exact H
        clear H
        have H := H1
        clear H1
        obtain rfl := Option.some.inj H
        go_wp2
        go_ret
        exact ⟨by first | rfl | (simp [errW_none, errW_some] <;> rfl) | (simp [*, errW_none, errW_some] <;> rfl), by repeat (first | (with_reducible first | exact HB.out | apply below_alloc | apply pw_below_drewN | apply below_drew1) | exact HB.out)⟩
      · replace c12 := Bool.eq_false_iff.mpr c12
        subst c12
        have H1 : (if 0 ≤ a1 then (if a1 ≤ (t233.length : Int) then ((utf_Next.f (t233.take (a1 : Int).toNat) 0).bind fun bt241 => (if bt241.1 = (-1) then (if bt241.2 = 1 then ((utf_Units.f kj4 (t233.take (a1 : Int).toNat)).bind fun t247 => (some (t247 == a1))) else (some false)) else (some false))) else (none)) else (none)) = some r := by rw [if_neg (show ¬ (false = true) by decide)] at H; exact H
        clear H
        have H := H1
        clear H1
        by_cases c13 : 0 ≤ a1
        · rw [if_pos c13] at H
          have c13b0 := eq_true c13
          have c13b1 : decide (0 ≤ a1) = true := decide_eq_true c13
          clear c13
          by_cases c14 : a1 ≤ (t233.length : Int)
          · rw [if_pos c14] at H
            have c14b0 := eq_true c14
            have c14b1 : decide (a1 ≤ (t233.length : Int)) = true := decide_eq_true c14
            clear c14
            obtain ⟨y237, hy237⟩ : ∃ y_ : List Int, y_ = (t233.take (a1 : Int).toNat) := ⟨_, rfl⟩
            replace H : ((utf_Next.f y237 0).bind fun bt241 => (if bt241.1 = (-1) then (if bt241.2 = 1 then ((utf_Units.f kj4 (t233.take (a1 : Int).toNat)).bind fun t247 => (some (t247 == a1))) else (some false)) else (some false))) = some r := by first | (rw [hy237]; with_reducible exact H) | (have H2_ := (Option.bind_some _ _).symm.trans H; rw [hy237]; with_reducible exact H2_) | (have H2_ := (Option.bind_some _ _).symm.trans H; with_reducible exact H2_) | with_reducible exact H | (rw [hy237]; exact H) | exact H
            have Ny237 := Aside0.mk hy237
            clear hy237
            replace H := Option.bind_eq_some_iff.mp H
            obtain ⟨⟨t241, t242⟩, A150, H⟩ := H
            replace H : (if t241 = (-1) then (if t242 = 1 then ((utf_Units.f kj4 (t233.take (a1 : Int).toNat)).bind fun t247 => (some (t247 == a1))) else (some false)) else (some false)) = some r := H
            have A15 := Aside0.mk A150
            clear A150
            by_cases c16 : t241 = (-1)
            · rw [if_pos c16] at H
              have c16b0 : (t241 == (-1)) = true := beq_iff_eq.mpr c16
              have c16b1 : (t241 != (-1)) = false := bne_eq_false_iff_eq.mpr c16
              clear c16
              by_cases c17 : t242 = 1
              · rw [if_pos c17] at H
                have c17b0 : (t242 == 1) = true := beq_iff_eq.mpr c17
                have c17b1 : (t242 != 1) = false := bne_eq_false_iff_eq.mpr c17
                clear c17
                have c18b0 := eq_true (of_decide_eq_true (by first | (with_reducible assumption) | assumption) : 0 ≤ a1)
                have c19b0 := eq_true (of_decide_eq_true (by first | (with_reducible assumption) | assumption) : a1 ≤ (t233.length : Int))
                obtain ⟨y243, hy243⟩ : ∃ y_ : List Int, y_ = (t233.take (a1 : Int).toNat) := ⟨_, rfl⟩
                replace H : ((utf_Units.f kj4 y243).bind fun t247 => (some (t247 == a1))) = some r := by first | (rw [hy243]; with_reducible exact H) | (have H2_ := (Option.bind_some _ _).symm.trans H; rw [hy243]; with_reducible exact H2_) | (have H2_ := (Option.bind_some _ _).symm.trans H; with_reducible exact H2_) | with_reducible exact H | (rw [hy243]; exact H) | exact H
                have Ny243 := Aside0.mk hy243
                clear hy243
                replace H := Option.bind_eq_some_iff.mp H
                obtain ⟨t247, A200, H⟩ := H
                replace H : (some (t247 == a1)) = some r := H
                have A20 := Aside0.mk A200
                clear A200
                obtain rfl := Option.some.inj H
                obtain ⟨Ao22, co22, eo22⟩ := Kd.R_slice HO_6.out
                subst eo22
                have q21 : (a1 : Int) ≤ ((t233.length : Int) : Int) := of_decide_eq_true (by first | (with_reducible assumption) | assumption)
                obtain ⟨i021, hi021, _, hsz21, _⟩ := info_parts info5
                have hroom21 : t233.length ≤ co22 := (Kd.R_reads' HO_6.out).2.1
                have hC21 : Kd.C (Kd.int .u8) _ Ao22 t233.length t233 := (Kd.R_reads' HO_6.out).2.2
                have hcut21 := cut_to (P := Try.prog) 22 5 .i64 Try.underlying22 hi021 Ao22 t233.length co22 a1 (of_decide_eq_true (by first | (with_reducible assumption) | assumption)) q21 hroom21
                have hr21 := Kd.C_take (m := (a1 : Int).toNat) hC21 (by omega)
                have hy21 : y237.length = (a1 : Int).toNat := (by rw [Ny237.out, List.length_take]; omega)
                rw [← Ny237.out] at hr21
                rw [← hy21] at hcut21
                have HR240 := Aside0.mk hr21
                have HC240 := Aside0.mk (show y237.length ≤ co22 from by omega)
                clear hr21 hC21 hroom21 hi021 hsz21
                have KY21 := Aside0.mk hy21
                clear hy21
                have KL21 := Aside0.mk (show (a1 : Int).toNat ≤ t233.length from by omega)
                replace q21 := eq_true q21
                go_wp2_with (first | ((with_reducible refine gate_callee (f := 13) rfl ?_); refine goesL_ (some 37) rfl rfl Try.func13 (by kernel_rfl) rfl #[.slice Ao22 y237.length co22, .int .i64 0] rfl (by (try simp only [List.map_toArray, List.map_cons, List.map_nil]); first | done | rfl | (simp only [List.length_drop, List.length_take]; rfl)) ?_; (with_reducible refine (utf_Next.calls _ _ y237 0 t241 t242 _ ?side1 ?side2 A15.out).mono ?_); (case side1 => repeat (first | exact (by repeat (first | (with_reducible exact HR240.out) | (with_reducible refine Kd.C_alloc ?_ _) | (with_reducible refine Kd.C_drewN ?_ _) | (with_reducible refine Kd.C_drew ?_) | exact HR240.out)) | (with_reducible refine Kd.C_alloc ?_ _) | (with_reducible refine Kd.C_drewN ?_ _) | (with_reducible refine Kd.C_drew ?_))); (case side2 => exact HC240.out); rintro e w23 ⟨rfl, hb⟩; refine ⟨_, rfl, ?_⟩; have n0_ := Aside0.mk (Kd.R_below (by (with_reducible repeat (first | apply Kd.R_alloc | apply Kd.R_drewN | apply Kd.R_drew)); exact HO_6.out) hb); have n1_ := Aside0.mk (Kd.C_below (by repeat (first | (with_reducible exact HR240.out) | (with_reducible refine Kd.C_alloc ?_ _) | (with_reducible refine Kd.C_drewN ?_ _) | (with_reducible refine Kd.C_drew ?_) | exact HR240.out)) hb); have n2_ := Aside0.mk (below_step (by repeat (first | (with_reducible first | exact HB.out | apply below_alloc | apply pw_below_drewN | apply below_drew1) | exact HB.out)) hb); clear HO_6; clear HR240; clear HB; have HO_6 := n0_; have HR240 := n1_; have HB := n2_; clear n0_ n1_ n2_; (try clear hb); (try clear hb2); (try clear hk); (try clear hi); have q24 : (a1 : Int) ≤ ((t233.length : Int) : Int) := of_decide_eq_true (by first | (with_reducible assumption) | assumption); obtain ⟨i024, hi024, _, hsz24, _⟩ := info_parts info5; have hroom24 : t233.length ≤ co22 := (Kd.R_reads' HO_6.out).2.1; have hC24 : Kd.C (Kd.int .u8) _ Ao22 t233.length t233 := (Kd.R_reads' HO_6.out).2.2; (try clear hcut21); have hcut24 := cut_to (P := Try.prog) 22 5 .i64 Try.underlying22 hi024 Ao22 t233.length co22 a1 (of_decide_eq_true (by first | (with_reducible assumption) | assumption)) q24 hroom24; have hr24 := Kd.C_take (m := (a1 : Int).toNat) hC24 (by omega); have hy24 : y243.length = (a1 : Int).toNat := (by rw [Ny243.out, List.length_take]; omega); rw [← Ny243.out] at hr24; rw [← hy24] at hcut24; have HR246 := Aside0.mk hr24; have HC246 := Aside0.mk (show y243.length ≤ co22 from by omega); clear hr24 hC24 hroom24 hi024 hsz24; have KY24 := Aside0.mk hy24; clear hy24; have KL24 := Aside0.mk (show (a1 : Int).toNat ≤ t233.length from by omega); replace q24 := eq_true q24) | (go_at_call 17; (with_reducible refine (utf_Units.calls kj4 _ _ y243 t247 _ ?side1 ?side2 A20.out).mono ?_); (case side1 => repeat (first | exact (by repeat (first | (with_reducible exact HR246.out) | (with_reducible refine Kd.C_alloc ?_ _) | (with_reducible refine Kd.C_drewN ?_ _) | (with_reducible refine Kd.C_drew ?_) | exact HR246.out)) | (with_reducible refine Kd.C_alloc ?_ _) | (with_reducible refine Kd.C_drewN ?_ _) | (with_reducible refine Kd.C_drew ?_))); (case side2 => exact HC246.out); rintro e w25 ⟨rfl, hb⟩; have n0_ := Aside0.mk (Kd.R_below (by (with_reducible repeat (first | apply Kd.R_alloc | apply Kd.R_drewN | apply Kd.R_drew)); exact HO_6.out) hb); have n1_ := Aside0.mk (Kd.C_below (by repeat (first | (with_reducible exact HR240.out) | (with_reducible refine Kd.C_alloc ?_ _) | (with_reducible refine Kd.C_drewN ?_ _) | (with_reducible refine Kd.C_drew ?_) | exact HR240.out)) hb); have n2_ := Aside0.mk (Kd.C_below (by repeat (first | (with_reducible exact HR246.out) | (with_reducible refine Kd.C_alloc ?_ _) | (with_reducible refine Kd.C_drewN ?_ _) | (with_reducible refine Kd.C_drew ?_) | exact HR246.out)) hb); have n3_ := Aside0.mk (below_step (by repeat (first | (with_reducible first | exact HB.out | apply below_alloc | apply pw_below_drewN | apply below_drew1) | exact HB.out)) hb); clear HO_6; clear HR240; clear HR246; clear HB; have HO_6 := n0_; have HR240 := n1_; have HR246 := n2_; have HB := n3_; clear n0_ n1_ n2_ n3_; (try clear hb); (try clear hb2); (try clear hk); (try clear hi)))
                go_ret
                exact ⟨by first | rfl | (simp [errW_none, errW_some] <;> rfl) | (simp [*, errW_none, errW_some] <;> rfl), by repeat (first | (with_reducible first | exact HB.out | apply below_alloc | apply pw_below_drewN | apply below_drew1) | exact HB.out)⟩
              · rw [if_neg c17] at H
                have c17b0 : (t242 == 1) = false := beq_eq_false_iff_ne.mpr c17
                have c17b1 : (t242 != 1) = true := bne_iff_ne.mpr c17
                obtain rfl := Option.some.inj H
                obtain ⟨Ao27, co27, eo27⟩ := Kd.R_slice HO_6.out
                subst eo27
                have q26 : (a1 : Int) ≤ ((t233.length : Int) : Int) := of_decide_eq_true (by first | (with_reducible assumption) | assumption)
                obtain ⟨i026, hi026, _, hsz26, _⟩ := info_parts info5
                have hroom26 : t233.length ≤ co27 := (Kd.R_reads' HO_6.out).2.1
                have hC26 : Kd.C (Kd.int .u8) _ Ao27 t233.length t233 := (Kd.R_reads' HO_6.out).2.2
                have hcut26 := cut_to (P := Try.prog) 22 5 .i64 Try.underlying22 hi026 Ao27 t233.length co27 a1 (of_decide_eq_true (by first | (with_reducible assumption) | assumption)) q26 hroom26
                have hr26 := Kd.C_take (m := (a1 : Int).toNat) hC26 (by omega)
                have hy26 : y237.length = (a1 : Int).toNat := (by rw [Ny237.out, List.length_take]; omega)
                rw [← Ny237.out] at hr26
                rw [← hy26] at hcut26
                have HR240 := Aside0.mk hr26
                have HC240 := Aside0.mk (show y237.length ≤ co27 from by omega)
                clear hr26 hC26 hroom26 hi026 hsz26
                have KY26 := Aside0.mk hy26
                clear hy26
                have KL26 := Aside0.mk (show (a1 : Int).toNat ≤ t233.length from by omega)
                replace q26 := eq_true q26
                go_wp2_with (first | ((with_reducible refine gate_callee (f := 13) rfl ?_); refine goesL_ (some 37) rfl rfl Try.func13 (by kernel_rfl) rfl #[.slice Ao27 y237.length co27, .int .i64 0] rfl (by (try simp only [List.map_toArray, List.map_cons, List.map_nil]); first | done | rfl | (simp only [List.length_drop, List.length_take]; rfl)) ?_; (with_reducible refine (utf_Next.calls _ _ y237 0 t241 t242 _ ?side1 ?side2 A15.out).mono ?_); (case side1 => repeat (first | exact (by repeat (first | (with_reducible exact HR240.out) | (with_reducible refine Kd.C_alloc ?_ _) | (with_reducible refine Kd.C_drewN ?_ _) | (with_reducible refine Kd.C_drew ?_) | exact HR240.out)) | (with_reducible refine Kd.C_alloc ?_ _) | (with_reducible refine Kd.C_drewN ?_ _) | (with_reducible refine Kd.C_drew ?_))); (case side2 => exact HC240.out); rintro e w28 ⟨rfl, hb⟩; refine ⟨_, rfl, ?_⟩; have n0_ := Aside0.mk (Kd.R_below (by (with_reducible repeat (first | apply Kd.R_alloc | apply Kd.R_drewN | apply Kd.R_drew)); exact HO_6.out) hb); have n1_ := Aside0.mk (Kd.C_below (by repeat (first | (with_reducible exact HR240.out) | (with_reducible refine Kd.C_alloc ?_ _) | (with_reducible refine Kd.C_drewN ?_ _) | (with_reducible refine Kd.C_drew ?_) | exact HR240.out)) hb); have n2_ := Aside0.mk (below_step (by repeat (first | (with_reducible first | exact HB.out | apply below_alloc | apply pw_below_drewN | apply below_drew1) | exact HB.out)) hb); clear HO_6; clear HR240; clear HB; have HO_6 := n0_; have HR240 := n1_; have HB := n2_; clear n0_ n1_ n2_; (try clear hb); (try clear hb2); (try clear hk); (try clear hi)))
                go_ret
                exact ⟨by first | rfl | (simp [errW_none, errW_some] <;> rfl) | (simp [*, errW_none, errW_some] <;> rfl), by repeat (first | (with_reducible first | exact HB.out | apply below_alloc | apply pw_below_drewN | apply below_drew1) | exact HB.out)⟩
            · rw [if_neg c16] at H
              have c16b0 : (t241 == (-1)) = false := beq_eq_false_iff_ne.mpr c16
              have c16b1 : (t241 != (-1)) = true := bne_iff_ne.mpr c16
              obtain rfl := Option.some.inj H
              obtain ⟨Ao30, co30, eo30⟩ := Kd.R_slice HO_6.out
              subst eo30
              have q29 : (a1 : Int) ≤ ((t233.length : Int) : Int) := of_decide_eq_true (by first | (with_reducible assumption) | assumption)
              obtain ⟨i029, hi029, _, hsz29, _⟩ := info_parts info5
              have hroom29 : t233.length ≤ co30 := (Kd.R_reads' HO_6.out).2.1
              have hC29 : Kd.C (Kd.int .u8) _ Ao30 t233.length t233 := (Kd.R_reads' HO_6.out).2.2
              have hcut29 := cut_to (P := Try.prog) 22 5 .i64 Try.underlying22 hi029 Ao30 t233.length co30 a1 (of_decide_eq_true (by first | (with_reducible assumption) | assumption)) q29 hroom29
              have hr29 := Kd.C_take (m := (a1 : Int).toNat) hC29 (by omega)
              have hy29 : y237.length = (a1 : Int).toNat := (by rw [Ny237.out, List.length_take]; omega)
              rw [← Ny237.out] at hr29
              rw [← hy29] at hcut29
              have HR240 := Aside0.mk hr29
              have HC240 := Aside0.mk (show y237.length ≤ co30 from by omega)
              clear hr29 hC29 hroom29 hi029 hsz29
              have KY29 := Aside0.mk hy29
              clear hy29
              have KL29 := Aside0.mk (show (a1 : Int).toNat ≤ t233.length from by omega)
              replace q29 := eq_true q29
              go_wp2_with (first | ((with_reducible refine gate_callee (f := 13) rfl ?_); refine goesL_ (some 37) rfl rfl Try.func13 (by kernel_rfl) rfl #[.slice Ao30 y237.length co30, .int .i64 0] rfl (by (try simp only [List.map_toArray, List.map_cons, List.map_nil]); first | done | rfl | (simp only [List.length_drop, List.length_take]; rfl)) ?_; (with_reducible refine (utf_Next.calls _ _ y237 0 t241 t242 _ ?side1 ?side2 A15.out).mono ?_); (case side1 => repeat (first | exact (by repeat (first | (with_reducible exact HR240.out) | (with_reducible refine Kd.C_alloc ?_ _) | (with_reducible refine Kd.C_drewN ?_ _) | (with_reducible refine Kd.C_drew ?_) | exact HR240.out)) | (with_reducible refine Kd.C_alloc ?_ _) | (with_reducible refine Kd.C_drewN ?_ _) | (with_reducible refine Kd.C_drew ?_))); (case side2 => exact HC240.out); rintro e w31 ⟨rfl, hb⟩; refine ⟨_, rfl, ?_⟩; have n0_ := Aside0.mk (Kd.R_below (by (with_reducible repeat (first | apply Kd.R_alloc | apply Kd.R_drewN | apply Kd.R_drew)); exact HO_6.out) hb); have n1_ := Aside0.mk (Kd.C_below (by repeat (first | (with_reducible exact HR240.out) | (with_reducible refine Kd.C_alloc ?_ _) | (with_reducible refine Kd.C_drewN ?_ _) | (with_reducible refine Kd.C_drew ?_) | exact HR240.out)) hb); have n2_ := Aside0.mk (below_step (by repeat (first | (with_reducible first | exact HB.out | apply below_alloc | apply pw_below_drewN | apply below_drew1) | exact HB.out)) hb); clear HO_6; clear HR240; clear HB; have HO_6 := n0_; have HR240 := n1_; have HB := n2_; clear n0_ n1_ n2_; (try clear hb); (try clear hb2); (try clear hk); (try clear hi)))
              go_ret
              exact ⟨by first | rfl | (simp [errW_none, errW_some] <;> rfl) | (simp [*, errW_none, errW_some] <;> rfl), by repeat (first | (with_reducible first | exact HB.out | apply below_alloc | apply pw_below_drewN | apply below_drew1) | exact HB.out)⟩
          · rw [if_neg c14] at H
            exact absurd H (by simp)
        · rw [if_neg c13] at H
          exact absurd H (by simp)

/-- THE ONE PURE STATEMENT of exegetelaw01_UtfCut: yours. -/
def exegetelaw01_UtfCut.Pure : Prop := ∀ (a0 : Int) (a1 : Int), (Lit.int .i64 a0).wf = true → (Lit.int .i64 a1).wf = true → ∃ k, exegetelaw01_UtfCut.f k a0 a1 = some true
theorem exegetelaw01_UtfCut.walk (P : exegetelaw01_UtfCut.Pure) (a0 : Int) (a1 : Int) (w : World) (w0 : (Lit.int .i64 a0).wf = true) (w1 : (Lit.int .i64 a1).wf = true) :
    Calls Try.prog 8 #[.int .i64 a0, .int .i64 a1] w fun e w' => e = .returned (.bool true) ∧ Below w.heap.size w w' := by
  obtain ⟨k, h⟩ := P a0 a1 w0 w1
  refine (exegetelaw01_UtfCut.calls k a0 a1 true w h).mono ?_
  rintro e w' ⟨rfl, hd⟩
  exact ⟨rfl, hd⟩

end Go.Proofs.Ytfcnpoamggbdfaa.All
