/- Texts of the claim TermTells, merged, without what it does not use. -/
import Derived.Test.YtcdahnkdongmdaaZTermTellsX10
import Derived.Test.YtcdahnkdongmdaaZTermTellsN11
namespace Go.Proofs.Ytcdahnkdongmdaa.Pure
set_option linter.unusedVariables false
set_option linter.unusedSimpArgs false
set_option linter.unnecessarySimpa false
open Go.RowKit Go.Proofs.Ytcdahnkdongmdaa.All Go.Proofs.YtcdahnkdongmdaaW.PrintWords Go.Proofs.YtcdahnkdongmdaaW.PrintLast
open Own
def textsOf : List S43 → List Int → Int → List Int
  | [], _, _ => []
  | s :: t, b, a => if termM s.f0 s.f1 b a > 0 then (a + termM s.f0 s.f1 b a) :: textsOf t b (a + termM s.f0 s.f1 b a) else []
theorem textsOf_length : ∀ (L : List S43) (b : List Int) (a : Int), (textsOf L b a).length ≤ L.length
  | [], _, _ => Nat.le_refl _
  | s :: t, b, a => by
    rw [textsOf]
    have := textsOf_length t b (a + termM s.f0 s.f1 b a)
    split
    · simp only [List.length_cons]; omega
    · simp
theorem rd_sym_drop {L : List S43} {i : Nat} (h : i < L.length) : L.drop i = rd_T43 L (i : Int) :: L.drop (i + 1) := by
  rw [List.drop_eq_getElem_cons h]
  have e : rd_T43 L (i : Int) = L[i] := by simp [rd_T43, List.getElem?_eq_getElem h]
  rw [e]
theorem rd_sym_mem {L : List S43} {i : Nat} (h : i < L.length) : rd_T43 L (i : Int) ∈ L := by
  have e : rd_T43 L (i : Int) = L[i] := by simp [rd_T43, List.getElem?_eq_getElem h]
  rw [e]; exact List.getElem_mem _
theorem term_step (s : S43) (b : List Int) (hb2 : b.length ≤ 200) (a : Int) (h : termM s.f0 s.f1 b a > 0) : wrap64 (a + termM s.f0 s.f1 b a) = a + termM s.f0 s.f1 b a ∧ 0 ≤ a ∧ a + termM s.f0 s.f1 b a ≤ (b.length : Int) := by
  obtain ⟨h0, h1, h2, _, h4⟩ := term_in s.f0 s.f1 b a
  rcases h4 with h4 | ⟨h4, h5, h6⟩
  · omega
  · exact ⟨wrq (by omega) (by omega), h4, by omega⟩
theorem ttexts_l0 (L : List S43) (hL : L.length ≤ 10) (hS : ∀ s ∈ L, s.f1.length ≤ 20) (b : List Int) (hb : Bytes b) (hb2 : b.length ≤ 200) : ∀ (d k i : Nat) (a : Int) (acc : List Int), i + d = L.length → 2000000 + d < k → acc.length ≤ i →
    term_Texts.l0 k b a acc L (L.length : Int) (i : Int) = some (acc ++ textsOf (L.drop i) b a)
  | d, 0, i, _, _, _, h, _ => by omega
  | 0, k + 1, i, a, acc, h, _, _ => by
    rw [term_Texts.l0, if_neg (by omega), List.drop_eq_nil_of_le (by omega), textsOf, List.append_nil]
  | d + 1, k + 1, i, a, acc, h, hk, hacc => by
    have hs := hS _ (rd_sym_mem (show i < L.length by omega))
    rw [term_Texts.l0, if_pos (by omega), if_pos (by omega), if_pos (by omega), tmatch_f k (by omega) _ _ _ (by omega) b hb a, Option.bind_some, rd_sym_drop (show i < L.length by omega), textsOf]
    by_cases c : termM (rd_T43 L (i : Int)).f0 (rd_T43 L (i : Int)).f1 b a > 0
    · have hst := (term_step _ b hb2 a c).1
      have hnx := ttexts_l0 L hL hS b hb hb2 d k (i + 1) (a + termM (rd_T43 L (i : Int)).f0 (rd_T43 L (i : Int)).f1 b a) (acc ++ [a + termM (rd_T43 L (i : Int)).f0 (rd_T43 L (i : Int)).f1 b a]) (by omega) (by omega) (by simp; omega)
      rw [show ((i + 1 : Nat) : Int) = (i : Int) + 1 by omega] at hnx
      rw [if_pos (decide_eq_true c), if_pos c]
      dsimp only
      rw [if_pos (by omega), hst, wrq (show -9223372036854775808 ≤ (i : Int) + 1 by omega) (by omega), hnx, List.append_assoc]
      rfl
    · rw [if_neg (by simpa using c), if_neg c, List.append_nil]
theorem ttexts_f (L : List S43) (hL : L.length ≤ 10) (hS : ∀ s ∈ L, s.f1.length ≤ 20) (b : List Int) (hb : Bytes b) (hb2 : b.length ≤ 200) (a : Int) (k : Nat) (hk : 2000020 ≤ k) : term_Texts.f k L b a = some (textsOf L b a) := by
  unfold term_Texts.f
  have := ttexts_l0 L hL hS b hb hb2 L.length k 0 a [] (by omega) (by omega) (by simp)
  rw [List.drop_zero, List.nil_append] at this
  exact this
end Go.Proofs.Ytcdahnkdongmdaa.Pure
