/- Texts of the claim TermTells, merged, without what it does not use. -/
import Derived.Test.YtcdahnkdongmdaaZTermTellsX1
import Derived.Test.YtcdahnkdongmdaaZTermTellsH6
import Derived.Test.YtcdahnkdongmdaaZTermTellsH7
import Derived.Test.YtcdahnkdongmdaaZTermTellsH10
namespace Go.Proofs.Ytcdahnkdongmdaa.All
open Go.RowKit Go.Proofs.YtcdahnkdongmdaaW.PrintWords Go.Proofs.YtcdahnkdongmdaaW.PrintLast Go.Proofs.YtcdahnkdongmdaaW.PrintMore
attribute [local go_sem] max2_int min2_int max_two min_two
set_option linter.unusedVariables false
set_option linter.unusedSimpArgs false
def ranges_Both.f (a0 a1 : List (S35)) : Option (List (S35)) := if a0.length ≤ 50000 ∧ a1.length ≤ 50000 then some (Own.bothB a0 a1) else none
theorem ranges_Both.calls (A0 : Option Addr) (c0 : Nat) (l0 : List (S35)) (A1 : Option Addr) (c1 : Nat) (l1 : List (S35)) (r : List (S35)) (w : World) (hr0 : Kd.C k35 w A0 l0.length l0) (hc0 : l0.length ≤ c0) (hr1 : Kd.C k35 w A1 l1.length l1) (hc1 : l1.length ≤ c1) (h : ranges_Both.f l0 l1 = some r) :
 Calls Try.prog 32 #[.slice A0 l0.length c0, .slice A1 l1.length c1] w fun e w' => ∃ v0_ : Value, e = .returned v0_ ∧ Kd.R k35 35 w' w.heap.size (fun _ => True) v0_ r ∧ Below w.heap.size w w' := by
 unfold ranges_Both.f at h
 by_cases hs : l0.length ≤ 50000 ∧ l1.length ≤ 50000
 · rw [if_pos hs] at h
   obtain rfl := Option.some.inj h
   exact Own.both_calls A0 A1 c0 c1 l0 l1 w hr0 hr1 hs.1 hs.2
 rw [if_neg hs] at h; cases h
def ranges_Norm.f (a0 : List (S35)) : Option (List (S35)) := if a0.length ≤ 100000 then some (Own.pickB (Own.hasB a0) a0) else none
theorem ranges_Norm.calls (A0 : Option Addr) (c0 : Nat) (l0 : List (S35)) (r : List (S35)) (w : World) (hr0 : Kd.C k35 w A0 l0.length l0) (hc0 : l0.length ≤ c0) (h : ranges_Norm.f l0 = some r) :
 Calls Try.prog 36 #[.slice A0 l0.length c0] w fun e w' => ∃ v0_ : Value, e = .returned v0_ ∧ Kd.R k35 35 w' w.heap.size (fun _ => True) v0_ r ∧ Below w.heap.size w w' := by
 unfold ranges_Norm.f at h
 by_cases hs : l0.length ≤ 100000
 · rw [if_pos hs] at h
   obtain rfl := Option.some.inj h
   exact Own.norm_calls A0 c0 l0 w hr0 hs
 rw [if_neg hs] at h; cases h
def seqs_kinds.f : Option Int := some 0
theorem seqs_kinds.calls (r : Int) (w : World) (h : seqs_kinds.f = some r) :
 Calls Try.prog 37 #[] w fun e w' => e = .returned Own.kArr ∧ Below w.heap.size w w' := Own.kinds_calls w
attribute [local go_sem] Own.idx_kinds
end Go.Proofs.Ytcdahnkdongmdaa.All
