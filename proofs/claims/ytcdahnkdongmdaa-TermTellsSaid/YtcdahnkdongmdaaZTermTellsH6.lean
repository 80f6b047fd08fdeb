/- Texts of the claim TermTells, merged, without what it does not use. -/
import Derived.Test.YtcdahnkdongmdaaZTermTellsH3
import Derived.Test.YtcdahnkdongmdaaZTermTellsH5
namespace Go.Proofs.Ytcdahnkdongmdaa.All
namespace Own
open Go.RowKit Go.Shelf Go.Proofs.YtcdahnkdongmdaaW.PrintWords Go.Proofs.YtcdahnkdongmdaaW.PrintLast Go.Proofs.YtcdahnkdongmdaaW.PrintMore
set_option linter.unusedVariables false
set_option linter.unusedSimpArgs false
attribute [local go_sem] Oper.semAt_some
theorem reps_flat (w : World) (base : Nat) (ok : Nat → Prop) : ∀ l : List S35, Reps (k35.M w base ok) 2 l (flatB l)
  | [] => Reps.none _ _
  | r :: t => by
    have h := Kd.reps_append (R := k35.M w base ok) (size := 2) (ps := [r]) (cs := [.int .i64 r.f0, .int .i64 r.f1]) ⟨rfl, fun j p hj => by
      match j, hj with
      | 0, hj => cases hj; exact k35_mkM _ _ _ _
      | j + 1, hj => simp at hj⟩ (reps_flat w base ok t)
    exact h
theorem R_flat {w : World} {base : Nat} {v : Value} {l : List S35} (h : w.ownsRow base 35 2 v l.length (flatB l)) : Kd.R k35 35 w base (fun _ => True) v l :=
  ⟨fun _ _ => trivial, flatB l, h, reps_flat _ _ _ _⟩
theorem pickB_length (F : Int → Bool) (l : List S35) : (pickB F l).length ≤ 2 * l.length + 2 := by
  have h := fold_length F (segsB (bordB l)) []
  rw [List.length_nil, Nat.zero_add] at h
  have h2 := segsB_length (bordB l)
  have h3 := bordB_length l
  unfold pickB
  omega
set_option maxHeartbeats 1000000 in
set_option maxRecDepth 100000 in
theorem norm_calls (A : Option Addr) (c : Nat) (l : List S35) (w : World) (hr : Kd.C k35 w A l.length l) (hl : l.length ≤ 100000) :
    Calls Try.prog 36 #[.slice A l.length c] w fun e w' => ∃ v, e = .returned v ∧ Kd.R k35 35 w' w.heap.size (fun _ => True) v (pickB (hasB l) l) ∧ Below w.heap.size w w' := by
  have HP := Aside0.mk (callsIn_wide.1 (pick31_in A l.length c (hasB l) A c l w hr hl (fun n W h => has_calls A c l n W (Kd.C_below hr h))))
  clear hr
  go_enter Try.func36, Try.ntmps36
  go_wp2_with (go_at_call 59; refine HP.out.mono ?_; rintro e w' ⟨v, rfl, ho, hb⟩; have HO := Aside0.mk ho; have HB := Aside0.mk hb; clear ho hb)
  go_ret
  exact ⟨_, rfl, R_flat HO.out, HB.out⟩
set_option maxHeartbeats 1000000 in
set_option maxRecDepth 100000 in
theorem Has_calls (A : Option Addr) (c : Nat) (l : List S35) (n : Int) (w : World) (hr : Kd.C k35 w A l.length l) :
    Calls Try.prog 18 #[.slice A l.length c, .int .i64 n] w fun e w' => e = .returned (.bool (hasB l n)) ∧ Below w.heap.size w w' := by
  have HP := Aside0.mk (has_calls A c l n w hr)
  clear hr
  go_enter Try.func18, Try.ntmps18
  go_wp2_with (go_at_call 41; refine HP.out.mono ?_; rintro e w' ⟨rfl, hb⟩; have HB := Aside0.mk hb; clear hb)
  go_ret
  exact ⟨rfl, HB.out⟩
theorem wp_world {P : Program} {c : Code} {Q : Exit → Act → World → Prop} {a : Act} {w0 : World} (S : World → Prop) (h : S w0) (k : ∀ W, S W → c.wp P Q a W) : c.wp P Q a w0 := k w0 h
theorem st_func (P : Program) (w : World) (a : Addr) (m : Mode) (fn : Fn) (first captured : Array Value) : (store a (.func fn first captured) m).run P w = stored P w a (.func fn first captured) m := run_store P w a _ m rfl
attribute [local go_sem] st_func
def bothF (a b : List S35) (n : Int) : Bool := hasB a n && hasB b n
def bothB (a b : List S35) : List S35 := pickB (bothF a b) (a ++ b)
set_option maxHeartbeats 1000000 in
set_option maxRecDepth 100000 in
theorem two_both (A1 A2 : Option Addr) (c1 c2 : Nat) (l1 l2 : List S35) (w : World) (hr1 : Kd.C k35 w A1 l1.length l1) (hr2 : Kd.C k35 w A2 l2.length l2) (h1 : l1.length ≤ 50000) (h2 : l2.length ≤ 50000) :
    Calls Try.prog 42 #[.slice A1 l1.length c1, .slice A2 l2.length c2, .func (.func 58) #[] #[]] w fun e w' => ∃ v, e = .returned v ∧ Kd.R k35 35 w' w.heap.size (fun _ => True) v (bothB l1 l2) ∧ Below w.heap.size w w' := by
  have HR1 := Aside0.mk hr1
  have HR2 := Aside0.mk hr2
  clear hr1 hr2
  have b5 := Boxed.new w 70 (.func (.func 58) #[] #[])
  have b7 := Boxed.new (w.alloc (.cells #[.func (.func 58) #[] #[]] 70)) 55 .nilFunc
  have b8 := Boxed.new ((w.alloc (.cells #[.func (.func 58) #[] #[]] 70)).alloc (.cells #[.nilFunc] 55)) 55 .nilFunc
  rw [World.size_alloc] at b7
  rw [World.size_alloc, World.size_alloc] at b8
  have b7' := b7.alloc (.cells #[.nilFunc] 55)
  have hf7 := b7'.frozen
  have hf8 := b8.frozen
  have hc7 := b7'.cell
  have hc8 := b8.cell
  clear b5 b7 b8 b7'
  have pk0_both : ∀ {A : Option Addr} {c : Nat} (w1 : World), Kd.C k35 w1 A (l1 ++ l2).length (l1 ++ l2) → Below w.heap.size w w1 → Boxed w1 w.heap.size 70 (.func (.func 58) #[] #[]) → Boxed w1 (w.heap.size + 1) 55 (.func (.func 41) #[.slice A1 l1.length c1] #[]) → Boxed w1 (w.heap.size + 1 + 1) 55 (.func (.func 41) #[.slice A2 l2.length c2] #[]) →
      Calls Try.prog 59 #[.func (.func 62) #[] #[.pointer (some ⟨w.heap.size, 0, none⟩), .pointer (some ⟨w.heap.size + 1, 0, none⟩), .pointer (some ⟨w.heap.size + 1 + 1, 0, none⟩)], .slice A (l1.length + l2.length) c] w1 fun e w' => ∃ v, e = .returned v ∧ w'.ownsRow w1.heap.size 35 2 v (bothB l1 l2).length (flatB (bothB l1 l2)) ∧ Below w1.heap.size w1 w' := by
    intro A c w1 hC hB y5 y7 y8
    have hI : ∀ (n : Int) (V : World), Below w1.heap.size w1 V → Calls Try.prog 62 #[.int .i64 n, .pointer (some ⟨w.heap.size, 0, none⟩), .pointer (some ⟨w.heap.size + 1, 0, none⟩), .pointer (some ⟨w.heap.size + 1 + 1, 0, none⟩)] V fun e w' => e = .returned (.bool (bothF l1 l2 n)) ∧ Below V.heap.size V w' := by
      intro n V h
      have h2 := two1_both _ _ _ A1 A2 c1 c2 l1 l2 n V (bx_later y5 h).cell (bx_later y7 h).cell (bx_later y8 h).cell (Kd.C_below (Kd.C_below HR1.out hB) h) (Kd.C_below (Kd.C_below HR2.out hB) h)
      exact h2
    rw [← List.length_append]
    exact callsIn_wide.1 (pick43_in w.heap.size (w.heap.size + 1) (w.heap.size + 1 + 1) (bothF l1 l2) A c (l1 ++ l2) w1 hC (by rw [List.length_append]; omega) hI)
  have pk_both := fun {A : Option Addr} {c : Nat} (w1 : World) a b c' d e => Aside0.mk (@pk0_both A c w1 a b c' d e)
  generalize hT : (bothB l1 l2) = T at *
  have HT := Aside0.mk hT
  clear hT
  go_enter Try.func42, Try.ntmps42
  go_upto_region 2 with fail
  clear hf7 hf8 hc7 hc8
  refine wp_world (fun W => Boxed W w.heap.size 70 (.func (.func 58) #[] #[]) ∧ Boxed W (w.heap.size + 1) 55 (.func (.func 41) #[.slice A1 l1.length c1] #[]) ∧ Boxed W (w.heap.size + 1 + 1) 55 (.func (.func 41) #[.slice A2 l2.length c2] #[]) ∧ Below w.heap.size w W) ⟨?_, ?_, ?_, ?_⟩ ?_
  · exact ((Boxed.new w 70 _).alloc _).alloc _
  · have b := (Boxed.new (w.alloc (.cells #[.func (.func 58) #[] #[]] 70)) 55 (.func (.func 41) #[.slice A1 l1.length c1] #[])).alloc (.cells #[.func (.func 41) #[.slice A2 l2.length c2] #[]] 55)
    rw [World.size_alloc] at b
    exact b
  · have b := Boxed.new ((w.alloc (.cells #[.func (.func 58) #[] #[]] 70)).alloc (.cells #[.func (.func 41) #[.slice A1 l1.length c1] #[]] 55)) 55 (.func (.func 41) #[.slice A2 l2.length c2] #[])
    rw [World.size_alloc, World.size_alloc] at b
    exact b
  · exact (((Below.refl _ w).alloc (Nat.le_refl _) _).alloc (by simp) _).alloc (by simp; omega) _
  · rintro W ⟨x5, x7, x8, xB⟩
    have X5 := Aside0.mk x5
    have X7 := Aside0.mk x7
    have X8 := Aside0.mk x8
    have XB := Aside0.mk xB
    clear x5 x7 x8 xB
    go_wp2_with (first
      | (go_at_call 63; go_loud (refine (concat_calls W.heap.size 2 A1 A2 c1 c2 l1 l2 _ (cell_two_new W _ _ _ 0 _ rfl) (cell_two_new W _ _ _ 1 _ rfl) (Kd.C_alloc (Kd.C_below HR1.out XB.out) _) (Kd.C_alloc (Kd.C_below HR2.out XB.out) _) (by omega) (by omega)).mono ?_; rintro e w1 ⟨v, rfl, hR, hB⟩; have hB0 := XB.out.trans ((((Below.refl _ W).alloc (Nat.le_refl _) _).trans (hB.mono (by simp))).mono XB.out.size); have HB0 := Aside0.mk hB0; have HBW := Aside0.mk (((Below.refl _ W).alloc (Nat.le_refl _) _).trans (hB.mono (by simp))); obtain ⟨A, c, rfl, _, hC⟩ := Kd.R_reads hR; have HPK := (pk_both (c := c) w1 hC HB0.out (bx_later X5.out HBW.out) (bx_later X7.out HBW.out) (bx_later X8.out HBW.out)); clear hB hB0 hC hR))
      | (go_at_call 59; refine HPK.out.mono ?_; rintro e w2 ⟨v2, rfl, ho, hb⟩; have HO := Aside0.mk ho; have HB := Aside0.mk hb; clear ho hb))
    go_ret
    have h0 := HB0.out
    refine ⟨_, rfl, ?_, h0.trans (HB.out.mono h0.size)⟩
    exact Kd.R_lower (R_flat HO.out) h0.size
set_option maxHeartbeats 1000000 in
set_option maxRecDepth 100000 in
theorem both_calls (A1 A2 : Option Addr) (c1 c2 : Nat) (l1 l2 : List S35) (w : World) (hr1 : Kd.C k35 w A1 l1.length l1) (hr2 : Kd.C k35 w A2 l2.length l2) (h1 : l1.length ≤ 50000) (h2 : l2.length ≤ 50000) :
    Calls Try.prog 32 #[.slice A1 l1.length c1, .slice A2 l2.length c2] w fun e w' => ∃ v, e = .returned v ∧ Kd.R k35 35 w' w.heap.size (fun _ => True) v (bothB l1 l2) ∧ Below w.heap.size w w' := by
  have HP := Aside0.mk (two_both A1 A2 c1 c2 l1 l2 w hr1 hr2 h1 h2)
  clear hr1 hr2
  go_enter Try.func32, Try.ntmps32
  go_wp2_with (go_at_call 42; refine HP.out.mono ?_; rintro e w' ⟨v, rfl, ho, hb⟩; have HO := Aside0.mk ho; have HB := Aside0.mk hb; clear ho hb)
  go_ret
  exact ⟨_, rfl, HO.out, HB.out⟩
end Own
end Go.Proofs.Ytcdahnkdongmdaa.All
