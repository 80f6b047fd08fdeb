/- Texts of the claim TermTells, merged, without what it does not use. -/
import Derived.Test.YtcdahnkdongmdaaZTermTellsH8
import Derived.Lib.SmallJoins
namespace Go.Proofs.Ytcdahnkdongmdaa.All
namespace Own
open Go.RowKit Go.ChangeShapes Go.WideShapes Go.Deep Go.Lib Go.Proofs Go.Proofs.YtcdahnkdongmdaaW.PrintWords Go.Proofs.YtcdahnkdongmdaaW.PrintLast Go.Proofs.YtcdahnkdongmdaaW.PrintMore
set_option linter.unusedVariables false
set_option linter.unusedSimpArgs false
theorem slice_of_trod {H : Type} {enc : TypeId × Value → H} {w : World} {base : Nat} {spare : Nat → Bool} {held : Bool} {t : TypeId} {v : Value} {n : Nat} {y : DataW H × List MemPlace} (ht : Try.prog.underlying t = some (.slice 35))
    (h : DataW.trod enc Try.prog w base spare held n t [v] = some y) : ∃ a len cap, v = .slice a len cap ∧ DataW.Trod enc Try.prog w base spare held t (.slice a len cap) y.1 y.2 := by
  rcases open_slice_pairs ht Try.underlying35 (by kernel_rfl) rfl rfl (by kernel_rfl) (by kernel_rfl) h with ⟨hcs, _⟩ | ⟨x, l, c, m, k, V0, V1, D0, D1, P0, P1, hcs, _⟩
  · simp only [List.cons.injEq, and_true] at hcs
    subst hcs
    exact ⟨_, _, _, rfl, n, h⟩
  · simp only [List.cons.injEq, and_true] at hcs
    subst hcs
    exact ⟨_, _, _, rfl, n, h⟩
set_option maxRecDepth 100000 in
theorem open_sym {H : Type} {enc : TypeId × Value → H} {w : World} {r : Reach} {b0 base : Nat} {spare : Nat → Bool} {held : Bool} {v : Value} {d : DataW H} {ps : List MemPlace}
    (hv : Value.okWide Try.prog w r b0 43 v) (h : DataW.Trod enc Try.prog w base spare held 43 v d ps) :
    ∃ (a0 a2 : Int) (A : Option Addr) (cap : Nat) (l : List S35), v = .agg #[.int .i64 a0, .slice A l.length cap, .int .i64 a2] ∧ (Lit.int .i64 a0).wf = true ∧ (Lit.int .i64 a2).wf = true ∧
      Kd.C k35 w A l.length l ∧ l.length ≤ maxLen ∧ l.length ≤ cap ∧ ∀ x ∈ l, (Lit.int .i64 x.f0).wf = true ∧ (Lit.int .i64 x.f1).wf = true := by
  obtain ⟨v0, v1, v2, y0, y1, y2, n, rfl, _, _, h0, h1, h2⟩ := Go.Joins.open_agg3 Try.underlying43 (by kernel_rfl) (by kernel_rfl) hv h
  obtain ⟨x0, e0, _, w0⟩ := DataW.trod_int (k := .i64) (by kernel_rfl) h0
  obtain ⟨x2, e2, _, w2⟩ := DataW.trod_int (k := .i64) (by kernel_rfl) h2
  simp only [List.cons.injEq, and_true] at e0 e2
  subst e0
  subst e2
  obtain ⟨A, len, cap, rfl, ht⟩ := slice_of_trod Try.underlying22 h1
  obtain ⟨l, rfl, hc, hm, hcap, hw⟩ := open_ranges Try.underlying22 ht
  exact ⟨x0, x2, A, cap, l, rfl, w0, w2, hc, hm, hcap, hw⟩
end Own
end Go.Proofs.Ytcdahnkdongmdaa.All
