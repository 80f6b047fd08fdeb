/- For the laws of ranges: what each function tells, and how lists in order are compared. -/
import Derived.Test.YtnfekgjkgiobfaaAllx10
import Derived.Test.YtnfekgjkgiobfaaNRangesO
namespace Go.Proofs.Ytnfekgjkgiobfaa.Pure
set_option linter.unusedVariables false
set_option linter.unusedSimpArgs false
set_option linter.unnecessarySimpa false
open Go.RowKit Go.Proofs.Ytnfekgjkgiobfaa.All Go.Proofs.YtnfekgjkgiobfaaW.PrintWords Go.Proofs.YtnfekgjkgiobfaaW.PrintLast
open Own
theorem both_f (a b : List Rg) (ha : a.length ≤ 50000) (hb : b.length ≤ 50000) : ranges_Both.f a b = some (bothB a b) := by unfold ranges_Both.f; rw [if_pos ⟨ha, hb⟩]
theorem either_f (a b : List Rg) (ha : a.length ≤ 50000) (hb : b.length ≤ 50000) : ranges_Either.f a b = some (eitherB a b) := by unfold ranges_Either.f; rw [if_pos ⟨ha, hb⟩]
theorem less_f (a b : List Rg) (ha : a.length ≤ 50000) (hb : b.length ≤ 50000) : ranges_Less.f a b = some (lessB a b) := by unfold ranges_Less.f; rw [if_pos ⟨ha, hb⟩]
theorem norm_f (a : List Rg) (ha : a.length ≤ 100000) : ranges_Norm.f a = some (pickB (hasB a) a) := by unfold ranges_Norm.f; rw [if_pos ha]
theorem has_f (a : List Rg) (n : Int) : ranges_Has.f a n = some (hasB a n) := rfl
theorem both_len (a b : List Rg) : (bothB a b).length ≤ 2 * (a.length + b.length) + 2 := by
  have := pickB_length (bothF a b) (a ++ b); rw [List.length_append] at this; exact this
theorem either_len (a b : List Rg) : (eitherB a b).length ≤ 2 * (a.length + b.length) + 2 := by
  have := pickB_length (eitherF a b) (a ++ b); rw [List.length_append] at this; exact this
theorem less_len (a b : List Rg) : (lessB a b).length ≤ 2 * (a.length + b.length) + 2 := by
  have := pickB_length (lessF a b) (a ++ b); rw [List.length_append] at this; exact this
/-- A list in order is told as it is. -/
theorem Upto.same {F : Int → Bool} {p : List Rg} (h : Upto F p 1114112) : pickB (hasB p) p = p := (norm_upto p).ext h fun n h0 h1 => h.at h0 h1
theorem Upto.congr {F G : Int → Bool} {p : List Rg} (h : Upto F p 1114112) (hc : ∀ n, 0 ≤ n → n < 1114112 → F n = G n) : Upto G p 1114112 := ⟨h.can, h.low, fun n => by
  rw [h.has n]
  by_cases h0 : 0 ≤ n
  · by_cases h1 : n < 1114112
    · rw [hc n h0 h1]
    · rw [decide_eq_false h1, Bool.and_false, Bool.false_and, Bool.false_and]
  · rw [decide_eq_false h0, Bool.false_and, Bool.false_and, Bool.false_and]⟩
theorem Upto.empty {F : Int → Bool} {p : List Rg} (h : Upto F p 1114112) : (p.length : Int) = 0 ↔ ∀ n, 0 ≤ n → n < 1114112 → F n = false := by
  constructor
  · intro hl n h0 h1
    obtain rfl : p = [] := List.eq_nil_of_length_eq_zero (by omega)
    rw [← h.at h0 h1]; rfl
  · intro hF
    have e : p = [] := h.ext (G := fun _ => false) ⟨trivial, (fun s hs => by cases hs), fun n => by rw [hasB_nil, Bool.and_false]⟩ hF
    rw [e]; rfl
theorem cntF_bound (F : Int → Bool) : ∀ N : Nat, 0 ≤ cntF F N ∧ cntF F N ≤ N
  | 0 => ⟨Int.le_refl _, Int.le_refl _⟩
  | N + 1 => by
    have := cntF_bound F N
    rw [cntF]
    by_cases c : F N = true
    · rw [if_pos c]; omega
    · rw [if_neg c]; omega
theorem size_cnt (k : Nat) (p : List Rg) (hb : p.length ≤ 100000) (hk : 4000001 ≤ k) (N : Nat) (hN : (N : Int) = 1114112) : ranges_Size.f k p = some (cntF (hasB p) N) := by
  rw [size_f k p hb hk, (norm_upto p).size N hN]
theorem Upto.cnt {F : Int → Bool} {p : List Rg} (h : Upto F p 1114112) (N : Nat) (hN : (N : Int) = 1114112) : cntF (hasB p) N = cntF F N := cntF_congr N fun n h0 h1 => h.at h0 (by omega)
theorem theN : ∃ N : Nat, (N : Int) = 1114112 := ⟨1114112, by decide⟩
theorem one_cnt (n : Int) (h0 : 0 ≤ n) (N : Nat) (h1 : n < N) : cntF (hasB [⟨n, n⟩]) N = 1 := by
  have e : cntF (hasB [(⟨n, n⟩ : Rg)]) N = cntF (inR ⟨n, n⟩) N := cntF_congr N fun m _ _ => by rw [hasB_cons, hasB_nil, Bool.or_false]
  have h := cntF_inR (⟨n, n⟩ : Rg) h0 (by show n ≤ n + 1; omega) N
  rw [e, h]
  show (if (N : Int) ≤ n then (0 : Int) else if (N : Int) ≤ n + 1 then (N : Int) - n else n - n + 1) = 1
  rw [if_neg (by omega)]
  by_cases c : (N : Int) ≤ n + 1
  · rw [if_pos c]; omega
  · rw [if_neg c]; omega
theorem one_has (n m : Int) : hasB [⟨n, n⟩] m = decide (m = n) := by
  rw [hasB_cons, hasB_nil, Bool.or_false, Bool.eq_iff_iff, inR_iff, decide_eq_true_eq]
  show (n ≤ m ∧ m ≤ n) ↔ _
  omega
theorem to_has (n m : Int) (h0 : 0 ≤ m) : hasB [⟨0, n⟩] m = decide (m ≤ n) := by
  rw [hasB_cons, hasB_nil, Bool.or_false, Bool.eq_iff_iff, inR_iff, decide_eq_true_eq]
  show (0 ≤ m ∧ m ≤ n) ↔ _
  omega
theorem all_not (l : List Rg) : Upto (fun n => !hasB l n) (notB l 1114111) 1114112 := (not_upto l 1114111).congr fun n h0 h1 => by
  rw [decide_eq_true (show n ≤ 1114111 by omega), Bool.and_true]
end Go.Proofs.Ytnfekgjkgiobfaa.Pure
