/- Texts of the claim TermTells, merged, without what it does not use. -/
import Derived.Test.YtcdahnkdongmdaaZTermTellsX23
import Derived.Test.YtcdahnkdongmdaaZTermTellsN16
namespace Go.Proofs.Ytcdahnkdongmdaa.Pure
set_option linter.unusedVariables false
set_option linter.unusedSimpArgs false
set_option linter.unnecessarySimpa false
open Go.RowKit Go.Proofs.Ytcdahnkdongmdaa.All Go.Proofs.YtcdahnkdongmdaaW.PrintWords Go.Proofs.YtcdahnkdongmdaaW.PrintLast
open Own
theorem tells_l0 (kind n : Int) (l : List Rg) (hl : l.length ≤ 20) (L : List S43) (hL : L.length ≤ 10) (b : List Int) (hb : Bytes b) (hb2 : b.length ≤ 200) (a : Int) : ∀ (d i : Nat), i + d = L.length → (∀ s ∈ L.take i, s.f1.length ≤ 20) →
    Ev (fun k => exegetelaw14_TermTells.l0 k L b a (i : Int) kind l n) true
  | 0, i, h, hS => by
    rw [List.take_of_length_le (by omega)] at hS
    have hlen := textsOf_length L b a
    have hp := Ref.rtpart_f kind n l (by omega) b hb (by omega) a
    have h2 : Ev (fun k => (exegeteref14_Part.f k kind l n b a).bind fun t409 => some (termP kind l b a == t409)) true := by
      refine Ev.bind (f := fun k t409 => some (termP kind l b a == t409)) hp ?_
      refine Ev.congr (fun k => ?_) (Ev.now true)
      simp
    obtain ⟨K, h2⟩ := h2
    refine ⟨max K 3000000 + 1, fun k hk => ?_⟩
    obtain ⟨k, rfl⟩ : ∃ m, k = m + 1 := ⟨k - 1, by omega⟩
    dsimp only
    rw [exegetelaw14_TermTells.l0, if_neg (by omega), tmatch_f k (by omega) kind n l (by omega) b hb a, Option.bind_some, Ref.rmatch_f k (by omega) kind n l (by omega) b hb (by omega) a, Option.bind_some,
      ttexts_f L hL hS b hb hb2 a k (by omega), Option.bind_some, Ref.rtexts_f L hL hS b hb hb2 a k (by omega), Option.bind_some, Ref.rints_f _ (by omega) k (by omega), Option.bind_some, if_pos rfl, if_pos rfl, if_pos (by simp), tpart_f k (by omega) kind n l (by omega) b hb a, Option.bind_some]
    exact h2 k (by omega)
  | d + 1, i, h, hS => by
    by_cases c : (((rd_T43 L (i : Int)).f1).length : Int) > 20
    · refine Ev.step (fun k => ?_) (Ev.now true)
      try dsimp only
      rw [exegetelaw14_TermTells.l0, if_pos (by omega), if_pos (by omega), if_pos c]
    · have hnx := tells_l0 kind n l hl L hL b hb hb2 a d (i + 1) (by omega) (fun s hs => by
        rw [List.take_succ_eq_append_getElem (show i < L.length by omega), List.mem_append, List.mem_singleton] at hs
        rcases hs with hs | rfl
        · exact hS s hs
        · have e : rd_T43 L (i : Int) = L[i]'(by omega) := by simp [rd_T43, List.getElem?_eq_getElem (show i < L.length by omega)]
          rw [e] at c
          omega)
      rw [show ((i + 1 : Nat) : Int) = (i : Int) + 1 by omega] at hnx
      refine Ev.step (fun k => ?_) hnx
      try dsimp only
      rw [exegetelaw14_TermTells.l0, if_pos (by omega), if_pos (by omega), if_neg c, wrq (x := (i : Int) + 1) (by omega) (by omega)]
theorem TermTells : exegetelaw14_TermTells.Pure := by
  intro kind l n L b a hkind hn hl hw hL hLw hm1 hm2 hw1 ha
  have hb := Bytes.of_wf hw1
  refine Ev.rounds (g := fun k => exegetelaw14_TermTells.f k kind l n L b a) ?_
  have haw : Ev (fun k => exegetelaw14_awake.f k) true := Ref.evk 2000010 fun k hk => tawake_f k hk
  refine Ev.bind (f := fun k (t395 : Bool) => (if t395 = true then (if (l.length : Int) > 20 then (exegetelaw14_TermTells.j0 k L b a t395 true kind l n) else (if (L.length : Int) > 10 then (exegetelaw14_TermTells.j0 k L b a t395 true kind l n) else (exegetelaw14_TermTells.j0 k L b a t395 (decide ((b.length : Int) > 200)) kind l n))) else (exegetelaw14_TermTells.j0 k L b a t395 true kind l n))) haw ?_
  try dsimp only
  have hj : Ev (fun k => exegetelaw14_TermTells.j0 k L b a true true kind l n) true := by
    refine Ev.step (fun k => ?_) (Ev.now true)
    try dsimp only
    rw [exegetelaw14_TermTells.j0, if_pos rfl]
  by_cases c1 : (l.length : Int) > 20
  · refine Ev.congr (fun k => ?_) hj
    rw [if_pos rfl, if_pos c1]
  by_cases c2 : (L.length : Int) > 10
  · refine Ev.congr (fun k => ?_) hj
    rw [if_pos rfl, if_neg c1, if_pos c2]
  by_cases c3 : (b.length : Int) > 200
  · refine Ev.congr (fun k => ?_) hj
    rw [if_pos rfl, if_neg c1, if_neg c2, decide_eq_true c3]
  refine Ev.congr (f := fun k => exegetelaw14_TermTells.j0 k L b a true false kind l n) (fun k => ?_) ?_
  · rw [if_pos rfl, if_neg c1, if_neg c2, decide_eq_false c3]
  refine Ev.step (fun k => ?_) (tells_l0 kind n l (by omega) L (by omega) b hb (by omega) a L.length 0 (by omega) (fun s hs => by simp at hs))
  try dsimp only
  rw [exegetelaw14_TermTells.j0, if_neg (by decide)]
  rfl
end Go.Proofs.Ytcdahnkdongmdaa.Pure
