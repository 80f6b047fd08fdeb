/- Texts of the claim TermTells, merged, without what it does not use. -/
import Derived.Test.YtcdahnkdongmdaaZTermTellsX9
import Derived.Test.YtcdahnkdongmdaaZTermTellsX11
import Derived.Test.YtcdahnkdongmdaaZTermTellsX10
import Derived.Test.YtcdahnkdongmdaaZTermTellsN9
namespace Go.Proofs.Ytcdahnkdongmdaa.Pure
set_option linter.unusedVariables false
set_option linter.unusedSimpArgs false
set_option linter.unnecessarySimpa false
open Go.RowKit Go.Proofs.Ytcdahnkdongmdaa.All Go.Proofs.YtcdahnkdongmdaaW.PrintWords Go.Proofs.YtcdahnkdongmdaaW.PrintLast
open Own
def octB (l : List Rg) (b : List Int) (a : Int) : Int := if 0 ≤ a ∧ a < (b.length : Int) then (if hasB l (rd b a) = true then 1 else 0) else 0
def termM (kind : Int) (l : List Rg) (b : List Int) (a : Int) : Int := if kind = 0 then octB l b a else if kind = 1 then setM l b a else 0
theorem rd_byte {b : List Int} (hb : Bytes b) {a : Int} (h0 : 0 ≤ a) (h1 : a < (b.length : Int)) : 0 ≤ rd b a ∧ rd b a ≤ 255 := by
  refine hb (rd b a) ?_
  have hi : a.toNat < b.length := by omega
  have e : rd b a = b[a.toNat] := by simp [rd, List.getElem?_eq_getElem hi]
  rw [e]; exact List.getElem_mem _
theorem oct_f (kind n : Int) (l : List Rg) (b : List Int) (hb : Bytes b) (a : Int) : term_sym_octet.f kind l n b a = some (octB l b a) := by
  unfold term_sym_octet.f octB
  by_cases c0 : a ≥ 0
  · rw [if_pos c0]
    by_cases c1 : a < (b.length : Int)
    · have := rd_byte hb c0 c1
      rw [if_pos c1, if_pos c0, if_pos ⟨c0, c1⟩, wrq (by omega) (by omega)]
      unfold ranges_Has.f
      rw [Option.bind_some]
      cases hasB l (rd b a) <;> rfl
    · rw [if_neg c1, if_neg (fun h => c1 h.2)]
  · rw [if_neg c0, if_neg (fun h => c0 h.1)]
theorem tmatch_f (k : Nat) (hk : 2000000 ≤ k) (kind n : Int) (l : List Rg) (hl : l.length ≤ 2000) (b : List Int) (hb : Bytes b) (a : Int) : term_Match.f k kind l n b a = some (termM kind l b a, decide (termM kind l b a > 0)) := by
  unfold term_Match.f term_Match.way termM
  by_cases c0 : kind = 0
  · rw [if_pos c0, if_pos c0, oct_f kind n l b hb a]; rfl
  · rw [if_neg c0, if_neg c0]
    by_cases c1 : kind = 1
    · rw [if_pos c1, if_pos c1]
      unfold term_sym_scalar.f
      rw [of_f l hl k hk, Option.bind_some, setM_f l hl b a k hk]; rfl
    · rw [if_neg c1, if_neg c1]; rfl
theorem put228 : putOf 228 = [195, 164] := by rw [put2 (by decide) (by decide)]; rfl
theorem byte_list (l : List Int) (h : l.all (fun x => decide (0 ≤ x) && decide (x ≤ 255)) = true) : Bytes l := fun x hx => by
  have := List.all_eq_true.mp h x hx
  rw [Bool.and_eq_true, decide_eq_true_eq, decide_eq_true_eq] at this
  exact this
theorem tawake_f (k : Nat) (hk : 2000010 ≤ k) : exegetelaw14_awake.f k = some true := by
  have may228 : All.mayB 228 = true := rfl
  have b1 : Bytes [195, 164] := byte_list _ rfl
  have b2 : Bytes [228] := byte_list _ rfl
  have b3 : Bytes [195, 164, 1] := byte_list _ rfl
  have has228 : hasB [(⟨228, 228⟩ : Rg)] 228 = true := rfl
  have sz228 : szOf 228 = 2 := rfl
  have m1 : termM 1 [⟨228, 228⟩] [195, 164] 0 = 2 := by
    unfold termM
    rw [if_neg (by decide), if_pos rfl]
    exact (setM_yes [⟨228, 228⟩] [195, 164] b1 0 (by decide) (by decide) 228 may228 has228 (by rw [put228]; exact List.prefix_refl _)).trans sz228
  have m2 : termM 0 [⟨228, 228⟩] [228] 0 = 1 := rfl
  have m3 : termM 1 [⟨228, 228⟩] [195, 164, 1] 0 = 2 := by
    unfold termM
    rw [if_neg (by decide), if_pos rfl]
    exact (setM_yes [⟨228, 228⟩] [195, 164, 1] b3 0 (by decide) (by decide) 228 may228 has228 (by rw [put228]; exact ⟨[1], rfl⟩)).trans sz228
  have m4 : termM 1 [⟨228, 228⟩] [195, 164, 1] 2 = 0 := by
    unfold termM
    rw [if_neg (by decide), if_pos rfl]
    refine setM_no [⟨228, 228⟩] [195, 164, 1] b3 2 fun v hv hl hp => ?_
    have h1 : v = 228 := by
      rw [hasB_cons, hasB_nil, Bool.or_false, inR_iff] at hl
      have h : 228 ≤ v ∧ v ≤ 228 := hl
      omega
    subst h1
    rw [put228] at hp
    have := hp.length_le
    exact absurd this (by decide)
  unfold exegetelaw14_awake.f
  rw [Option.bind_some, tmatch_f k (by omega) 1 0 _ (by simp) _ b1 0, Option.bind_some, tmatch_f k (by omega) 0 0 _ (by simp) _ b2 0, Option.bind_some, m1, m2, if_pos rfl, if_pos (by decide), if_pos rfl, if_pos (by decide)]
  have hp : term_Part.f k 1 [(⟨228, 228⟩ : Rg)] 0 [195] 0 = some 1 := by
    unfold term_Part.f term_Part.way
    rw [if_neg (by decide), if_pos rfl]
    unfold term_sym_part.f
    have hpl := pieces_length [(⟨228, 228⟩ : Rg)] (by simp)
    rw [of_f _ (by simp) k (by omega), Option.bind_some, prtq_f _ (by rw [List.length_map]; omega) _ _ k (by rw [List.length_map]; omega), Option.bind_some]
    have := prt_set [⟨228, 228⟩] 228 may228 has228 1 (by rw [put228]; decide)
    rw [put228] at this
    exact congrArg some this
  rw [hp, Option.bind_some, if_pos rfl]
  have ht : term_Texts.f k [(⟨1, [⟨228, 228⟩], 0⟩ : S43), ⟨1, [⟨228, 228⟩], 0⟩] [195, 164, 1] 0 = some [2] := by
    obtain ⟨k', rfl⟩ : ∃ k', k = k' + 2 := ⟨k - 2, by omega⟩
    unfold term_Texts.f
    rw [term_Texts.l0, if_pos (by decide), if_pos (by decide), if_pos (by decide)]
    show (term_Match.f (k' + 1) 1 [⟨228, 228⟩] 0 [195, 164, 1] 0).bind _ = _
    rw [tmatch_f (k' + 1) (by omega) 1 0 _ (by simp) _ b3 0, Option.bind_some, m3, if_pos (by decide), if_pos (by decide)]
    have w1 : wrap64 ((0 : Int) + 2) = 2 := by decide +kernel
    have w2 : wrap64 ((0 : Int) + 1) = 1 := by decide +kernel
    dsimp only
    rw [w1, w2, term_Texts.l0, if_pos (by decide), if_pos (by decide), if_pos (by decide)]
    show (term_Match.f k' 1 [⟨228, 228⟩] 0 [195, 164, 1] 2).bind _ = _
    rw [tmatch_f k' (by omega) 1 0 _ (by simp) _ b3 2, Option.bind_some, m4, if_neg (by decide)]
    rfl
  rw [ht, Option.bind_some]
  rfl
end Go.Proofs.Ytcdahnkdongmdaa.Pure
