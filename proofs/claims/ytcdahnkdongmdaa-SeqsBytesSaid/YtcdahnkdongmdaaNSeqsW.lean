/- The example of chapter 3. -/
import Derived.Test.YtcdahnkdongmdaaAllx8
import Derived.Test.YtcdahnkdongmdaaNSeqsE
namespace Go.Proofs.Ytcdahnkdongmdaa.Pure
set_option linter.unusedVariables false
set_option linter.unusedSimpArgs false
set_option linter.unnecessarySimpa false
open Go.RowKit Go.Proofs.Ytcdahnkdongmdaa.All Go.Proofs.YtcdahnkdongmdaaW.PrintWords Go.Proofs.YtcdahnkdongmdaaW.PrintLast
open Own
/-! ### the chapter's example -/
theorem pieces_ex : piecesOf [⟨128, 2047⟩] = [⟨128, 2047⟩] := by
  have e : pickB (hasB [(⟨128, 2047⟩ : Rg)]) [⟨128, 2047⟩] = [⟨128, 2047⟩] := (norm_upto _).ext (G := hasB [(⟨128, 2047⟩ : Rg)]) ⟨by simp [Canon], by simp, fun n => by
    by_cases h : hasB [(⟨128, 2047⟩ : Rg)] n = true
    · rw [h]
      rw [hasB_cons, hasB_nil, Bool.or_false, inR_iff] at h
      have h' : 128 ≤ n ∧ n ≤ 2047 := h
      rw [decide_eq_true (show 0 ≤ n by omega), decide_eq_true (show n < 1114112 by omega)]; rfl
    · rw [Bool.eq_false_iff.mpr h, Bool.and_false]⟩ fun _ _ _ => rfl
  unfold piecesOf
  rw [e]
  rfl
theorem part_one (k : Nat) (hk : 10 ≤ k) (s : List Rg) (c : Int) : seqs_Part.f k [s] [c] 0 = some (mx 0 (fitsB s [c] : Nat)) := by
  obtain ⟨k', rfl⟩ : ∃ k', k = k' + 3 := ⟨k - 3, by omega⟩
  unfold seqs_Part.f
  rw [if_neg (by decide), show decide ((0 : Int) > (([c] : List Int).length : Int)) = false from rfl, seqs_Part.j0, if_neg (by decide), seqs_Part.l0, if_pos (by simp), if_pos (by decide), if_pos (by simp), if_pos (by decide), if_pos (by simp)]
  unfold seqs_fits.f
  rw [Option.bind_some, seqs_Part.l0, if_neg (by rw [wrq (by omega) (by omega)]; simp)]
  rfl
theorem awake_f (k : Nat) (hk : 2000000 ≤ k) : exegetelaw03_awake.f k = some true := by
  unfold exegetelaw03_awake.f
  rw [of_f _ (by simp) k hk, pieces_ex, Option.bind_some]
  have e : ([(⟨128, 2047⟩ : Rg)].map oneB) = [[⟨194, 223⟩, ⟨128, 191⟩]] := rfl
  rw [e]
  rw [if_pos (by rfl), if_pos (by decide), if_pos (by rfl), if_pos (by decide), if_pos (by rfl), if_pos (by decide), if_pos (by rfl)]
  rw [match_f _ (by simp) _ _ k (by simp; omega), Option.bind_some]
  have m : mtch [[(⟨194, 223⟩ : Rg), ⟨128, 191⟩]] (([195, 164] : List Int).drop (0 : Int).toNat) = 2 := by
    show mtch [[(⟨194, 223⟩ : Rg), ⟨128, 191⟩]] [195, 164] = 2
    rw [mtch, if_pos (by rw [fitsB, wrq (by omega) (by omega), if_pos (by decide), fitsB, wrq (by omega) (by omega), if_pos (by decide)]; rfl)]; rfl
  rw [if_pos (show (0 : Int) ≤ 0 ∧ (0 : Int) ≤ (([195, 164] : List Int).length : Int) from ⟨by decide, by decide⟩), m, if_pos rfl, part_one k (by omega), Option.bind_some]
  have f : fitsB [(⟨194, 223⟩ : Rg), ⟨128, 191⟩] [195] = 1 := by rw [fitsB, wrq (by omega) (by omega), if_pos (by decide)]; rfl
  rw [f]
  rfl
end Go.Proofs.Ytcdahnkdongmdaa.Pure
