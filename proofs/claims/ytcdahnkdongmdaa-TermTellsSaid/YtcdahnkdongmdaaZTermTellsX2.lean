/- Texts of the claim TermTells, merged, without what it does not use. -/
import Derived.Test.YtcdahnkdongmdaaZTermTellsX1
import Derived.Test.YtcdahnkdongmdaaZTermTellsH6
import Derived.Test.YtcdahnkdongmdaaZTermTellsH7
import Derived.Test.YtcdahnkdongmdaaZTermTellsH10
namespace Go.Proofs.Ytcdahnkdongmdaa.All
open Go.RowKit Go.Proofs.YtcdahnkdongmdaaW.PrintWords Go.Proofs.YtcdahnkdongmdaaW.PrintLast Go.Proofs.YtcdahnkdongmdaaW.PrintMore
attribute [local go_sem] max2_int min2_int max_two min_two
set_option linter.unusedVariables false
set_option linter.unusedSimpArgs false
def ranges_Has.f (a0 : List (S35)) (a1 : Int) : Option Bool := some (Own.hasB a0 a1)
theorem ranges_Has.calls (A0 : Option Addr) (c0 : Nat) (l0 : List (S35)) (a1 : Int) (r : Bool) (w : World) (hr0 : Kd.C k35 w A0 l0.length l0) (hc0 : l0.length ≤ c0) (h : ranges_Has.f l0 a1 = some r) :
 Calls Try.prog 18 #[.slice A0 l0.length c0, .int .i64 a1] w fun e w' => e = .returned (.bool r) ∧ Below w.heap.size w w' := by
 obtain rfl := Option.some.inj h
 exact Own.Has_calls A0 c0 l0 a1 w hr0
end Go.Proofs.Ytcdahnkdongmdaa.All
