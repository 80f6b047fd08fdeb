/- Texts of the claim TermTells, merged, without what it does not use. -/
import Derived.Test.YtcdahnkdongmdaaZTermTellsX1
import Derived.Deep.SlicePairs
import Derived.ChangeArms
import Derived.WideLaws
namespace Go.Proofs.Ytcdahnkdongmdaa.All
namespace Own
open Go.RowKit Go.ChangeShapes Go.WideShapes Go.Deep Go.Proofs.YtcdahnkdongmdaaW.PrintWords Go.Proofs.YtcdahnkdongmdaaW.PrintLast Go.Proofs.YtcdahnkdongmdaaW.PrintMore
set_option linter.unusedVariables false
set_option linter.unusedSimpArgs false
theorem open_ranges {H : Type} {enc : TypeId × Value → H} {w : World} {base : Nat} {spare : Nat → Bool} {held : Bool} {t : TypeId} {a : Option Addr} {len cap : Nat} {d : DataW H} {ps : List MemPlace} (ht : Try.prog.underlying t = some (.slice 35))
    (h : DataW.Trod enc Try.prog w base spare held t (.slice a len cap) d ps) :
    ∃ l : List S35, len = l.length ∧ Kd.C k35 w a l.length l ∧ l.length ≤ maxLen ∧ l.length ≤ cap ∧ ∀ x ∈ l, (Lit.int .i64 x.f0).wf = true ∧ (Lit.int .i64 x.f1).wf = true := by
  obtain ⟨fuel, hf⟩ := h
  rcases open_slice_pairs ht Try.underlying35 (by kernel_rfl) rfl rfl (by kernel_rfl) (by kernel_rfl) hf with ⟨hcs, _⟩ | ⟨x, l, c, m, n, V0, V1, D0, D1, P0, P1, hcs, _, hl, hm, hmm, _, hall⟩
  · simp only [Value.cells, List.cons.injEq, Value.slice.injEq, and_true, Array.toList] at hcs
    obtain ⟨rfl, rfl, rfl⟩ := hcs
    exact ⟨[], rfl, ⟨rfl, by decide, fun h => absurd h (by decide)⟩, by simp, Nat.le_refl _, fun _ h => by cases h⟩
  · simp only [Value.cells, List.cons.injEq, Value.slice.injEq, and_true, Array.toList] at hcs
    obtain ⟨rfl, rfl, rfl⟩ := hcs
    have hlm : len ≤ m := by rw [hmm]; split <;> omega
    have hint : ∀ i, i < len → ∃ x0 x1 : Int, V0 i = .int .i64 x0 ∧ V1 i = .int .i64 x1 ∧ (Lit.int .i64 x0).wf = true ∧ (Lit.int .i64 x1).wf = true := by
      intro i hi
      obtain ⟨_, _, h0, h1⟩ := hall i (by omega)
      obtain ⟨x0, e0, _, w0⟩ := DataW.trod_int (k := .i64) (by kernel_rfl) h0
      obtain ⟨x1, e1, _, w1⟩ := DataW.trod_int (k := .i64) (by kernel_rfl) h1
      simp only [List.cons.injEq, and_true] at e0 e1
      exact ⟨x0, x1, e0, e1, w0, w1⟩
    have hn : len ≤ 9223372036854775807 := by have h1 : cap ≤ maxLen := hm; unfold maxLen at h1; omega
    refine ⟨(List.range len).map fun i => ⟨intOf (V0 i), intOf (V1 i)⟩, by simp, ⟨rfl, by simp; exact hn, fun _ => ⟨x, rfl, fun j p hj => ?_⟩⟩, by simp; omega, by simp; exact hl, fun y hy => ?_⟩
    · have hj1 : j < len := by
        have := (List.getElem?_eq_some_iff.1 hj).1
        simpa using this
      rw [List.getElem?_map, List.getElem?_range hj1] at hj
      simp only [Option.map_some, Option.some.injEq] at hj
      subst hj
      obtain ⟨hc0, hc1, _, _⟩ := hall j (by omega)
      obtain ⟨x0, x1, e0, e1, _, _⟩ := hint j hj1
      refine ⟨[V0 j, V1 j], rfl, ?_, fun i u hu => ?_⟩
      · rw [e0, e1]; exact k35_mk w ⟨x0, x1⟩
      · match i, hu with
        | 0, hu => cases hu; exact hc0
        | 1, hu => cases hu; exact hc1
        | i + 2, hu => simp at hu
    · obtain ⟨i, hi, rfl⟩ := List.mem_map.1 hy
      obtain ⟨x0, x1, e0, e1, w0, w1⟩ := hint i (List.mem_range.1 hi)
      rw [e0, e1]
      exact ⟨w0, w1⟩
end Own
end Go.Proofs.Ytcdahnkdongmdaa.All
