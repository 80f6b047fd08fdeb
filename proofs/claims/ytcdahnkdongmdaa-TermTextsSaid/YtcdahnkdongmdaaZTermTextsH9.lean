/- Texts of the claim TermTexts, merged, without what it does not use. -/
import Derived.Test.YtcdahnkdongmdaaZTermTextsH8
import Derived.Lib.SmallJoins
namespace Go.Proofs.Ytcdahnkdongmdaa.All
namespace Own
open Go.RowKit Go.ChangeShapes Go.WideShapes Go.Deep Go.Lib Go.Proofs Go.Proofs.YtcdahnkdongmdaaW.PrintWords Go.Proofs.YtcdahnkdongmdaaW.PrintLast Go.Proofs.YtcdahnkdongmdaaW.PrintMore
set_option linter.unusedVariables false
set_option linter.unusedSimpArgs false
theorem slice_of_trod {H : Type} {enc : TypeId × Value → H} {w : World} {base : Nat} {spare : Nat → Bool} {held : Bool} {t : TypeId} {v : Value} {n : Nat} {y : DataW H × List MemPlace} (ht : Try.prog.underlying t = some (.slice 35))
    (h : DataW.trod enc Try.prog w base spare held n t [v] = some y) : ∃ a len cap, v = .slice a len cap ∧ DataW.Trod enc Try.prog w base spare held t (.slice a len cap) y.1 y.2 := by
  rcases open_slice_pairs ht Try.underlying35 (by kernel_rfl) rfl rfl (by kernel_rfl) (by kernel_rfl) h with ⟨hcs, _⟩ | ⟨x, l, c, m, k, V0, V1, D0, D1, P0, P1, hcs, _⟩
  · simp only [List.cons.injEq, and_true] at hcs
    subst hcs
    exact ⟨_, _, _, rfl, n, h⟩
  · simp only [List.cons.injEq, and_true] at hcs
    subst hcs
    exact ⟨_, _, _, rfl, n, h⟩
end Own
end Go.Proofs.Ytcdahnkdongmdaa.All
