/- Texts of the claim TermTells, merged, without what it does not use. -/
import Derived.Test.YtcdahnkdongmdaaZTermTellsH8
import Derived.Test.YtcdahnkdongmdaaZTermTellsH9
import Derived.Lib.SmallJoins
namespace Go.Proofs.Ytcdahnkdongmdaa.All
namespace Own
open Go.RowKit Go.ChangeShapes Go.WideShapes Go.Deep Go.Lib Go.Proofs Go.Proofs.YtcdahnkdongmdaaW.PrintWords Go.Proofs.YtcdahnkdongmdaaW.PrintLast Go.Proofs.YtcdahnkdongmdaaW.PrintMore
set_option linter.unusedVariables false
set_option linter.unusedSimpArgs false
def SymOk (x : S43) : Prop := (Lit.int .i64 x.f0).wf = true ∧ (Lit.int .i64 x.f2).wf = true ∧ x.f1.length ≤ maxLen ∧ ∀ y ∈ x.f1, (Lit.int .i64 y.f0).wf = true ∧ (Lit.int .i64 y.f1).wf = true
set_option maxRecDepth 100000 in
theorem sym_cells {H : Type} {enc : TypeId × Value → H} {w : World} {base : Nat} {spare : Nat → Bool} {held : Bool} {n : Nat} {cs : List Value} {y : DataW H × List MemPlace}
    (h : DataW.trod enc Try.prog w base spare held n 43 cs = some y) : ∃ s : S43, k43.K w s cs ∧ SymOk s := by
  obtain ⟨y0, y1, y2, m, _, hl, h0, h1, h2⟩ := trod_struct3 Try.underlying43 h
  have e3 : cs.length = 3 := hl.trans (by kernel_rfl)
  match cs, e3 with
  | [v0, v1, v2], _ =>
    have g0 : DataW.trod enc Try.prog w base spare held m 3 [v0] = some y0 := h0
    have g1 : DataW.trod enc Try.prog w base spare held m 22 [v1] = some y1 := h1
    have g2 : DataW.trod enc Try.prog w base spare held m 3 [v2] = some y2 := h2
    obtain ⟨x0, e0, _, w0⟩ := DataW.trod_int (k := .i64) (by kernel_rfl) g0
    obtain ⟨x2, e2, _, w2⟩ := DataW.trod_int (k := .i64) (by kernel_rfl) g2
    simp only [List.cons.injEq, and_true] at e0 e2
    subst e0
    subst e2
    obtain ⟨A, len, cap, rfl, ht⟩ := slice_of_trod Try.underlying22 g1
    obtain ⟨l, rfl, hc, hm, hcap, hw⟩ := open_ranges Try.underlying22 ht
    exact ⟨⟨x0, l, x2⟩, k43_mk w ⟨x0, l, x2⟩ hcap hc, w0, w2, hm, hw⟩
set_option maxRecDepth 100000 in
theorem open_syms {H : Type} {enc : TypeId × Value → H} {w : World} {base : Nat} {spare : Nat → Bool} {held : Bool} {t : TypeId} {a : Option Addr} {len cap : Nat} {d : DataW H} {ps : List MemPlace} (ht : Try.prog.underlying t = some (.slice 43))
    (h : DataW.Trod enc Try.prog w base spare held t (.slice a len cap) d ps) :
    ∃ l : List S43, len = l.length ∧ Kd.C k43 w a l.length l ∧ l.length ≤ maxLen ∧ l.length ≤ cap ∧ ∀ x ∈ l, SymOk x := by
  obtain ⟨fuel, hf⟩ := h
  rcases open_slice ht hf with ⟨hcs, _⟩ | ⟨x, l, c, m, n, D, Pl, hcs, _, hl, hm, hmm, _, hall⟩
  · simp only [Value.cells, List.cons.injEq, Value.slice.injEq, and_true, Array.toList] at hcs
    obtain ⟨rfl, rfl, rfl⟩ := hcs
    exact ⟨[], rfl, ⟨rfl, by decide, fun h => absurd h (by decide)⟩, by simp, Nat.le_refl _, fun _ h => by cases h⟩
  · simp only [Value.cells, List.cons.injEq, Value.slice.injEq, and_true, Array.toList] at hcs
    obtain ⟨rfl, rfl, rfl⟩ := hcs
    have hlm : len ≤ m := by rw [hmm]; split <;> omega
    have hC : Try.prog.cellsOf 43 = 3 := by kernel_rfl
    rw [hC] at hall
    have each : ∀ i, i < len → ∃ q : List Value × S43, k43.K w q.2 q.1 ∧ SymOk q.2 ∧ ∀ j u, q.1[j]? = some u → w.cell? (x.add (i * 3 + j)) = some u := by
      intro i hi
      obtain ⟨cs', h1, h2⟩ := hall i (by omega)
      obtain ⟨_, hlen, hcell⟩ := World.cells?_some h1
      obtain ⟨s, hk, hs⟩ := sym_cells h2
      refine ⟨(cs', s), hk, hs, fun j u hu => ?_⟩
      have hj := (List.getElem?_eq_some_iff.1 hu).1
      have := hcell j (hlen ▸ hj)
      rw [Go.Deep.add_add] at this
      exact this.trans hu
    have : Inhabited (List Value × S43) := ⟨([], z43)⟩
    obtain ⟨q, hq⟩ := choose_lt each
    have hn : len ≤ 9223372036854775807 := by have h1 : cap ≤ maxLen := hm; unfold maxLen at h1; omega
    refine ⟨(List.range len).map fun i => (q i).2, by simp, ⟨rfl, by simp; exact hn, fun _ => ⟨x, rfl, fun j p hj => ?_⟩⟩, by simp; omega, by simp; exact hl, fun y hy => ?_⟩
    · have hj1 : j < len := by
        have := (List.getElem?_eq_some_iff.1 hj).1
        simpa using this
      rw [List.getElem?_map, List.getElem?_range hj1] at hj
      simp only [Option.map_some, Option.some.injEq] at hj
      subst hj
      exact ⟨(q j).1, k43.K_len (hq j hj1).1, (hq j hj1).1, fun i u hu => (hq j hj1).2.2 i u hu⟩
    · obtain ⟨i, hi, rfl⟩ := List.mem_map.1 hy
      exact (hq i (List.mem_range.1 hi)).2.1
end Own
end Go.Proofs.Ytcdahnkdongmdaa.All
