/- Texts of the claim TermTells, merged, without what it does not use. -/
import Derived.Test.YtcdahnkdongmdaaZTermTellsX10
import Derived.Test.YtcdahnkdongmdaaZTermTellsN8
namespace Go.Proofs.Ytcdahnkdongmdaa.Pure
set_option linter.unusedVariables false
set_option linter.unusedSimpArgs false
set_option linter.unnecessarySimpa false
open Go.RowKit Go.Proofs.Ytcdahnkdongmdaa.All Go.Proofs.YtcdahnkdongmdaaW.PrintWords Go.Proofs.YtcdahnkdongmdaaW.PrintLast
open Own
theorem mx_in (a b : Int) : a ≤ mx a b ∧ b ≤ mx a b ∧ (mx a b = a ∨ mx a b = b) := by
  unfold mx; split <;> omega
def prt : Int → List (List Rg) → List Int → Int
  | best, [], _ => best
  | best, s :: t, p => prt (mx best (fitsB s p : Nat)) t p
theorem prt_ge : ∀ (L : List (List Rg)) (best : Int) (p : List Int), best ≤ prt best L p ∧ ∀ s ∈ L, (fitsB s p : Int) ≤ prt best L p
  | [], best, p => ⟨Int.le_refl _, fun s hs => by cases hs⟩
  | s :: t, best, p => by
    obtain ⟨h1, h2⟩ := prt_ge t (mx best (fitsB s p : Nat)) p
    have hm := mx_in best (fitsB s p : Nat)
    rw [prt]
    refine ⟨by omega, fun u hu => ?_⟩
    rcases List.mem_cons.mp hu with rfl | hu
    · omega
    · exact h2 u hu
theorem prt_le (M : Int) : ∀ (L : List (List Rg)) (best : Int) (p : List Int), best ≤ M → (∀ s ∈ L, (fitsB s p : Int) ≤ M) → prt best L p ≤ M
  | [], best, p, h, _ => h
  | s :: t, best, p, h, hs => by
    have hm := mx_in best (fitsB s p : Nat)
    have h1 := hs s List.mem_cons_self
    rw [prt]
    exact prt_le M t _ p (by omega) fun u hu => hs u (List.mem_cons_of_mem _ hu)
theorem mtch_le_prt (L : List (List Rg)) (p : List Int) : mtch L p ≤ prt 0 L p := by
  have hge := prt_ge L 0 p
  have h0 : mtch L p = 0 ∨ ∃ s ∈ L, mtch L p = (fitsB s p : Nat) := by
    clear hge
    induction L with
    | nil => exact .inl rfl
    | cons s t ih =>
      rw [mtch]
      by_cases c : fitsB s p = s.length
      · rw [if_pos c]; exact .inr ⟨s, List.mem_cons_self, by rw [c]⟩
      · rw [if_neg c]
        rcases ih with h | ⟨u, hu, h⟩
        · exact .inl h
        · exact .inr ⟨u, List.mem_cons_of_mem _ hu, h⟩
  rcases h0 with h | ⟨s, hs, h⟩
  · rw [h]; exact hge.1
  · rw [h]; exact hge.2 s hs
theorem prtq_l0 (L : List (List Rg)) (hL : L.length ≤ 1000000) (b : List Int) (a : Int) (h0 : 0 ≤ a) (h1 : a ≤ (b.length : Int)) : ∀ (d k i : Nat) (best : Int), i + d = L.length → d < k →
    seqs_Part.l0 k b a best L (L.length : Int) (i : Int) = some (prt best (L.drop i) (b.drop a.toNat))
  | d, 0, i, _, _, h => by omega
  | 0, k + 1, i, best, h, _ => by
    rw [seqs_Part.l0, if_neg (by omega), List.drop_eq_nil_of_le (by omega)]; rfl
  | d + 1, k + 1, i, best, h, hk => by
    have hnx := prtq_l0 L hL b a h0 h1 d k (i + 1) (mx best (fitsB (rd_L2 L (i : Int)) (b.drop a.toNat) : Nat)) (by omega) (by omega)
    rw [show ((i + 1 : Nat) : Int) = (i : Int) + 1 by omega] at hnx
    rw [seqs_Part.l0, if_pos (by omega), if_pos (by omega), if_pos (by omega), if_pos h0, if_pos h1, wrq (by omega) (by omega)]
    unfold seqs_fits.f
    rw [Option.bind_some, hnx, rd_L2_drop (show i < L.length by omega), prt]
theorem prtq_f (L : List (List Rg)) (hL : L.length ≤ 1000000) (b : List Int) (a : Int) (k : Nat) (hk : L.length + 2 ≤ k) :
    seqs_Part.f k L b a = some (if 0 ≤ a ∧ a ≤ (b.length : Int) then prt 0 L (b.drop a.toNat) else 0) := by
  unfold seqs_Part.f
  obtain ⟨k', rfl⟩ : ∃ k', k = k' + 1 := ⟨k - 1, by omega⟩
  by_cases c : a < 0
  · rw [if_pos c, if_neg (by omega), seqs_Part.j0, if_pos rfl]
  · rw [if_neg c]
    by_cases c2 : a > (b.length : Int)
    · rw [decide_eq_true c2, if_neg (by omega), seqs_Part.j0, if_pos rfl]
    · rw [decide_eq_false c2, if_pos (by omega), seqs_Part.j0, if_neg (by decide)]
      have := prtq_l0 L hL b a (by omega) (by omega) L.length k' 0 0 (by omega) (by omega)
      rw [List.drop_zero] at this
      exact this
theorem acc_take : ∀ (s : List Rg) (p : List Int), Bytes p → acc s p = true → ∀ m, m ≤ p.length → fitsB s (p.take m) = m
  | [], [], _, _, m, h => by simp at h; subst h; rfl
  | [], c :: p, _, h, m, _ => by cases h
  | r :: s, [], _, h, m, _ => by cases h
  | r :: s, c :: p, hb, h, 0, _ => rfl
  | r :: s, c :: p, hb, h, m + 1, hm => by
    have hc := hb c List.mem_cons_self
    rw [acc, Bool.and_eq_true, inR_iff] at h
    rw [List.take_succ_cons, fitsB, wrq (by omega) (by omega), if_pos h.1, acc_take s p (fun x hx => hb x (List.mem_cons_of_mem _ hx)) h.2 m (by simp at hm; omega)]
theorem prt_set (l : List Rg) (r : Int) (hr : All.mayB r = true) (hl : hasB l r = true) (m : Nat) (hm : m ≤ (putOf r).length) : prt 0 ((piecesOf l).map oneB) ((putOf r).take m) = m := by
  have h1 : hasB (piecesOf l) r = true := by rw [pieces_has, hl, hr]; rfl
  obtain ⟨x, hx, h2, h3⟩ := hasB_mem h1
  have hg := pieces_good l x hx
  have ha := (hg.acc_iff (putOf r)).mpr ⟨r, h2, h3, rfl⟩
  have hf := acc_take _ _ (put_bytes hr) ha m hm
  have hge := (prt_ge ((piecesOf l).map oneB) 0 ((putOf r).take m)).2 (oneB x) (List.mem_map_of_mem hx)
  have hle := prt_le m ((piecesOf l).map oneB) 0 ((putOf r).take m) (by omega) fun s _ => by
    have := (fits_le s ((putOf r).take m)).2
    rw [List.length_take] at this
    omega
  rw [hf] at hge
  omega
theorem one_len4 {x : Rg} (h : Good x) : (oneB x).length ≤ 4 := by
  rw [one_length h (Int.le_refl _) h.le, put_length]
  have := sz_range x.f0; omega
end Go.Proofs.Ytcdahnkdongmdaa.Pure
