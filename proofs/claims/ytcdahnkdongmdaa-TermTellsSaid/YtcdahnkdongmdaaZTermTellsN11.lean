/- Texts of the claim TermTells, merged, without what it does not use. -/
import Derived.Test.YtcdahnkdongmdaaZTermTellsX11
import Derived.Test.YtcdahnkdongmdaaZTermTellsN10
namespace Go.Proofs.Ytcdahnkdongmdaa.Pure
set_option linter.unusedVariables false
set_option linter.unusedSimpArgs false
set_option linter.unnecessarySimpa false
open Go.RowKit Go.Proofs.Ytcdahnkdongmdaa.All Go.Proofs.YtcdahnkdongmdaaW.PrintWords Go.Proofs.YtcdahnkdongmdaaW.PrintLast
open Own
def setP (l : List Rg) (b : List Int) (a : Int) : Int := if 0 ≤ a ∧ a ≤ (b.length : Int) then prt 0 ((piecesOf l).map oneB) (b.drop a.toNat) else 0
def termP (kind : Int) (l : List Rg) (b : List Int) (a : Int) : Int := if kind = 0 then octB l b a else if kind = 1 then setP l b a else 0
theorem tpart_f (k : Nat) (hk : 2000000 ≤ k) (kind n : Int) (l : List Rg) (hl : l.length ≤ 2000) (b : List Int) (hb : Bytes b) (a : Int) : term_Part.f k kind l n b a = some (termP kind l b a) := by
  unfold term_Part.f term_Part.way termP
  by_cases c0 : kind = 0
  · rw [if_pos c0, if_pos c0, oct_f kind n l b hb a]
  · rw [if_neg c0, if_neg c0]
    by_cases c1 : kind = 1
    · rw [if_pos c1, if_pos c1]
      unfold term_sym_part.f
      have hpl := pieces_length l hl
      rw [of_f l hl k hk, Option.bind_some, prtq_f _ (by rw [List.length_map]; omega) _ _ k (by rw [List.length_map]; omega), Option.bind_some]; rfl
    · rw [if_neg c1, if_neg c1]; rfl
theorem oct_in (l : List Rg) (b : List Int) (a : Int) : octB l b a = 0 ∨ octB l b a = 1 ∧ 0 ≤ a ∧ a < (b.length : Int) := by
  unfold octB
  by_cases c : 0 ≤ a ∧ a < (b.length : Int)
  · rw [if_pos c]
    cases hasB l (rd b a)
    · exact .inl rfl
    · exact .inr ⟨rfl, c⟩
  · rw [if_neg c]; exact .inl rfl
theorem mtch_ge : ∀ (L : List (List Rg)) (p : List Int), 0 ≤ mtch L p
  | [], p => Int.le_refl _
  | s :: t, p => by
    have := mtch_ge t p
    rw [mtch]
    split <;> omega
theorem term_in (kind : Int) (l : List Rg) (b : List Int) (a : Int) : 0 ≤ termM kind l b a ∧ termM kind l b a ≤ termP kind l b a ∧ termP kind l b a ≤ 4 ∧ (kind ≠ 0 → kind ≠ 1 → termP kind l b a = 0) ∧
    (termP kind l b a = 0 ∨ 0 ≤ a ∧ a < (b.length : Int) ∧ termP kind l b a ≤ (b.length : Int) - a) := by
  unfold termM termP
  by_cases c0 : kind = 0
  · rw [if_pos c0, if_pos c0]
    rcases oct_in l b a with h | ⟨h, h1, h2⟩ <;> rw [h]
    · exact ⟨by omega, by omega, by omega, fun h => absurd c0 h, .inl rfl⟩
    · exact ⟨by omega, by omega, by omega, fun h => absurd c0 h, .inr ⟨h1, h2, by omega⟩⟩
  · rw [if_neg c0, if_neg c0]
    by_cases c1 : kind = 1
    · rw [if_pos c1, if_pos c1]
      unfold setM setP
      by_cases c : 0 ≤ a ∧ a ≤ (b.length : Int)
      · rw [if_pos c, if_pos c]
        have h1 := mtch_ge ((piecesOf l).map oneB) (b.drop a.toNat)
        have h2 := mtch_le_prt ((piecesOf l).map oneB) (b.drop a.toNat)
        have h4 : prt 0 ((piecesOf l).map oneB) (b.drop a.toNat) ≤ 4 := prt_le 4 _ 0 _ (by omega) fun s hs => by
          obtain ⟨x, hx, rfl⟩ := List.mem_map.mp hs
          have h3 := one_len4 (pieces_good l x hx)
          have h5 := (fits_le (oneB x) (b.drop a.toNat)).1
          omega
        have h6 : prt 0 ((piecesOf l).map oneB) (b.drop a.toNat) ≤ (b.drop a.toNat).length := prt_le _ _ 0 _ (by omega) fun s hs => by
          have h5 := (fits_le s (b.drop a.toNat)).2
          omega
        rw [List.length_drop] at h6
        refine ⟨h1, h2, h4, fun _ h => absurd c1 h, ?_⟩
        by_cases c2 : a = (b.length : Int)
        · exact .inl (by omega)
        · exact .inr ⟨c.1, by omega, by omega⟩
      · rw [if_neg c, if_neg c]
        exact ⟨by omega, by omega, by omega, fun _ _ => rfl, .inl rfl⟩
    · rw [if_neg c1, if_neg c1]
      exact ⟨by omega, by omega, by omega, fun _ _ => rfl, .inl rfl⟩
end Go.Proofs.Ytcdahnkdongmdaa.Pure
