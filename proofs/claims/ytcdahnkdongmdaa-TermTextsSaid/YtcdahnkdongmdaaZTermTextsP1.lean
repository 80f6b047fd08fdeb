/- Texts of the claim TermTexts, merged, without what it does not use. -/
import Derived.Test.YtcdahnkdongmdaaZTermTextsX12
import Derived.Test.YtcdahnkdongmdaaZTermTextsN12
namespace Go.Proofs.Ytcdahnkdongmdaa.Pure
set_option linter.unusedVariables false
set_option linter.unusedSimpArgs false
set_option linter.unnecessarySimpa false
open Go.RowKit Go.Proofs.Ytcdahnkdongmdaa.All Go.Proofs.YtcdahnkdongmdaaW.PrintWords Go.Proofs.YtcdahnkdongmdaaW.PrintLast
open Own
theorem law_l1 (L : List S43) (hL : L.length ≤ 10) (hS : ∀ s ∈ L, s.f1.length ≤ 20) (b : List Int) (hb : Bytes b) (hb2 : b.length ≤ 200) (T : List Int) : ∀ (d k i : Nat) (a : Int), i + d = L.length → 2000000 + d < k → i ≤ T.length → T.drop i = textsOf (L.drop i) b a →
    exegetelaw14_TermTexts.l1 k L b a T (i : Int) = some true
  | d, 0, i, _, _, h, _, _ => by omega
  | 0, k + 1, i, a, h, _, _, _ => by
    rw [exegetelaw14_TermTexts.l1, if_neg (by omega)]
  | d + 1, k + 1, i, a, h, hk, hi, hT => by
    have hs := hS _ (rd_sym_mem (show i < L.length by omega))
    rw [rd_sym_drop (show i < L.length by omega), textsOf] at hT
    rw [exegetelaw14_TermTexts.l1, if_pos (by omega), if_pos (by omega), tmatch_f k (by omega) _ _ _ (by omega) b hb a, Option.bind_some]
    dsimp only
    by_cases c : termM (rd_T43 L (i : Int)).f0 (rd_T43 L (i : Int)).f1 b a > 0
    · have hst := (term_step _ b hb2 a c).1
      rw [if_pos c] at hT
      have hlt : i < T.length := by
        have := congrArg List.length hT
        rw [List.length_drop, List.length_cons] at this
        omega
      have hT0 := hT
      rw [List.drop_eq_getElem_cons hlt, List.cons.injEq] at hT
      have e : rd T (i : Int) = T[i] := by simp [rd, List.getElem?_eq_getElem hlt]
      have hnx := law_l1 L hL hS b hb hb2 T d k (i + 1) (a + termM (rd_T43 L (i : Int)).f0 (rd_T43 L (i : Int)).f1 b a) (by omega) (by omega) (by omega) hT.2
      rw [show ((i + 1 : Nat) : Int) = (i : Int) + 1 by omega] at hnx
      rw [if_neg (by omega), if_pos (decide_eq_true c), if_pos (by omega), hst, e, hT.1, if_pos rfl, wrq (show -9223372036854775808 ≤ (i : Int) + 1 by omega) (by omega), hnx]
    · rw [if_neg c] at hT
      have hlen : i = T.length := by
        have := congrArg List.length hT
        rw [List.length_drop, List.length_nil] at this
        omega
      rw [if_pos (by omega), decide_eq_false c]; rfl
theorem law_l0 (L : List S43) (hL : L.length ≤ 10) (b : List Int) (hb : Bytes b) (hb2 : b.length ≤ 200) (a : Int) : ∀ (d k i : Nat), i + d = L.length → 2000100 + d < k → (∀ s ∈ L.take i, s.f1.length ≤ 20) →
    exegetelaw14_TermTexts.l0 k L b a (i : Int) = some true
  | d, 0, i, h, _, _ => by omega
  | 0, k + 1, i, h, _, hS => by
    rw [List.take_of_length_le (by omega)] at hS
    have hlen := textsOf_length L b a
    rw [exegetelaw14_TermTexts.l0, if_neg (by omega), ttexts_f L hL hS b hb hb2 a k (by omega), Option.bind_some, if_neg (by omega)]
    exact law_l1 L hL hS b hb hb2 (textsOf L b a) L.length k 0 a (by omega) (by omega) (by omega) (by rw [List.drop_zero, List.drop_zero])
  | d + 1, k + 1, i, h, hk, hS => by
    rw [exegetelaw14_TermTexts.l0, if_pos (by omega), if_pos (by omega)]
    by_cases c : (((rd_T43 L (i : Int)).f1).length : Int) > 20
    · rw [if_pos c]
    · have hnx := law_l0 L hL b hb hb2 a d k (i + 1) (by omega) (by omega) (fun s hs => by
        rw [List.take_succ_eq_append_getElem (show i < L.length by omega), List.mem_append, List.mem_singleton] at hs
        rcases hs with hs | rfl
        · exact hS s hs
        · have e : rd_T43 L (i : Int) = L[i]'(by omega) := by simp [rd_T43, List.getElem?_eq_getElem (show i < L.length by omega)]
          rw [e] at c
          omega)
      rw [show ((i + 1 : Nat) : Int) = (i : Int) + 1 by omega] at hnx
      rw [if_neg c, wrq (show -9223372036854775808 ≤ (i : Int) + 1 by omega) (by omega), hnx]
theorem TermTexts : exegetelaw14_TermTexts.Pure := by
  intro L b a hm0 hw0 hm1 hm2 hw1 ha
  have hb := Bytes.of_wf hw1
  refine ⟨3000000, ?_⟩
  unfold exegetelaw14_TermTexts.f
  rw [tawake_f _ (by omega), Option.bind_some, if_pos rfl]
  by_cases c1 : (L.length : Int) > 10
  · rw [if_pos c1]; simp only [exegetelaw14_TermTexts.j0, if_true]
  rw [if_neg c1]
  by_cases c2 : (b.length : Int) > 200
  · rw [decide_eq_true c2]; simp only [exegetelaw14_TermTexts.j0, if_true]
  rw [decide_eq_false c2]
  simp only [exegetelaw14_TermTexts.j0, Bool.false_eq_true, if_false]
  exact law_l0 L (by omega) b hb (by omega) a L.length _ 0 (by omega) (by omega) (fun s hs => by simp at hs)
end Go.Proofs.Ytcdahnkdongmdaa.Pure
