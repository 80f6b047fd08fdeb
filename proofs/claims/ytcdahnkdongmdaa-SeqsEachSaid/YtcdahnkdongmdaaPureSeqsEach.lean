/- Of the law SeqsEach: for every list of ranges and every number it tells true. -/
import Derived.Test.YtcdahnkdongmdaaAllx9
import Derived.Test.YtcdahnkdongmdaaNSeqsE
namespace Go.Proofs.Ytcdahnkdongmdaa.Pure
set_option linter.unusedVariables false
set_option linter.unusedSimpArgs false
set_option linter.unnecessarySimpa false
open Go.RowKit Go.Proofs.Ytcdahnkdongmdaa.All Go.Proofs.YtcdahnkdongmdaaW.PrintWords Go.Proofs.YtcdahnkdongmdaaW.PrintLast
open Own
def cntP (r : Int) : List Rg → Int
  | [] => 0
  | x :: t => (if inR x r = true then 1 else 0) + cntP r t
theorem cntP_asc (r : Int) : ∀ {l : List Rg} {lo : Int}, Asc lo l → cntP r l = if hasB l r = true then 1 else 0
  | [], lo, _ => rfl
  | x :: t, lo, ⟨h1, h2, h3⟩ => by
    rw [cntP, cntP_asc r h3, hasB_cons]
    by_cases c : inR x r = true
    · have h4 := (inR_iff x r).mp c
      have h5 : hasB t r = false := Bool.eq_false_iff.mpr fun h => by
        obtain ⟨y, hy, h6, h7⟩ := hasB_mem h
        have := (h3.mem y hy).1; omega
      rw [c, h5]; simp
    · rw [Bool.eq_false_iff.mpr c, Bool.false_or]; simp
theorem cntP_bound (r : Int) : ∀ l : List Rg, 0 ≤ cntP r l ∧ cntP r l ≤ l.length
  | [] => ⟨Int.le_refl _, Int.le_refl _⟩
  | x :: t => by
    have := cntP_bound r t
    rw [cntP, List.length_cons]
    split <;> omega
theorem each_l0 (l : List Rg) (r : Int) (hr : All.mayB r = true) (ps : List Rg) (hg : ∀ z ∈ ps, Good z) (hL : ps.length ≤ 1000000) : ∀ (d k i : Nat) (n : Int), i + d = ps.length → d + 10 ≤ k → 0 ≤ n → n ≤ i →
    exegetelaw03_SeqsEach.l0 k l r (putOf r) (ps.map oneB) n (i : Int) = exegetelaw03_SeqsEach.l0 (k - d) l r (putOf r) (ps.map oneB) (n + cntP r (ps.drop i)) (ps.length : Int)
  | 0, k, i, n, h, hk, _, _ => by
    obtain rfl : i = ps.length := by omega
    rw [List.drop_length, cntP, Int.add_zero, Nat.sub_zero]
  | d + 1, k, i, n, h, hk, h0, h1 => by
    obtain ⟨k', rfl⟩ : ∃ k', k = k' + 1 := ⟨k - 1, by omega⟩
    have hi : i < ps.length := by omega
    have hx := hg ps[i] (List.getElem_mem hi)
    have hdr : ps.drop i = ps[i] :: ps.drop (i + 1) := List.drop_eq_getElem_cons hi
    have hone : (((ps.map oneB).take ((wrap64 ((i : Int) + 1)) : Int).toNat).drop (i : Int).toNat) = [oneB ps[i]] := by
      rw [wrq (by omega) (by omega), show ((i : Int) + 1).toNat = i + 1 by omega, Int.toNat_natCast, List.drop_take, show i + 1 - i = 1 by omega, ← List.map_drop, hdr]
      rfl
    have hpl := put_length r
    have hsz := sz_range r
    have hmf := match_f [oneB ps[i]] (by simp) (putOf r) 0 k' (by simp; omega)
    rw [if_pos (show (0 : Int) ≤ 0 ∧ (0 : Int) ≤ ((putOf r).length : Int) from ⟨by decide, by omega⟩)] at hmf
    rw [exegetelaw03_SeqsEach.l0, if_pos (by rw [List.length_map]; omega), if_pos (by omega), if_pos (by rw [wrq (by omega) (by omega)]; omega), if_pos (by rw [wrq (by omega) (by omega), List.length_map]; omega), hone, hmf, Option.bind_some]
    show (if mtch [oneB ps[i]] (putOf r) = ((putOf r).length : Int) then _ else _) = _
    have hit : (mtch [oneB ps[i]] (putOf r) = ((putOf r).length : Int)) ↔ inR ps[i] r = true := by
      rw [inR_iff]
      constructor
      · intro he
        by_cases c : fitsB (oneB ps[i]) (putOf r) = (oneB ps[i]).length
        · obtain ⟨v, h2, h3, h4⟩ := (one_fits hx _ (put_bytes hr)).mp c
          have := put_prefix (hx.may h2 h3) hr h4 (List.prefix_refl _)
          subst this; exact ⟨h2, h3⟩
        · rw [mtch, if_neg c, mtch] at he; omega
      · rintro ⟨h2, h3⟩
        have c := (one_fits hx _ (put_bytes hr)).mpr ⟨r, h2, h3, List.prefix_refl _⟩
        rw [mtch, if_pos c, one_length hx h2 h3]
    rw [show k' + 1 - (d + 1) = k' - d by omega, hdr, cntP, wrq (x := (i : Int) + 1) (by omega) (by omega), show ((i : Int) + 1) = ((i + 1 : Nat) : Int) by omega]
    by_cases c : inR ps[i] r = true
    · rw [if_pos (hit.mpr c), if_pos c, wrq (by omega) (by omega), each_l0 l r hr ps hg hL d k' (i + 1) (n + 1) (by omega) (by omega) (by omega) (by omega), Int.add_assoc]
    · rw [if_neg (fun h => c (hit.mp h)), if_neg c, each_l0 l r hr ps hg hL d k' (i + 1) n (by omega) (by omega) (by omega) (by omega), Int.zero_add]
theorem SeqsEach : exegetelaw03_SeqsEach.Pure := by
  intro l r hm hw hr0
  refine ⟨3000000, ?_⟩
  unfold exegetelaw03_SeqsEach.f utf_Put.f
  rw [awake_f _ (by omega), Option.bind_some]
  by_cases hr : All.mayB r = true
  · rw [if_pos hr, Option.bind_some, if_pos rfl]
    by_cases c1 : (l.length : Int) > 20
    · rw [if_pos c1]; simp only [exegetelaw03_SeqsEach.j0, if_true]
    rw [if_neg c1]
    simp only [exegetelaw03_SeqsEach.j0, Bool.not_true, Bool.false_eq_true, if_false]
    rw [of_f l (by omega) _ (by omega), Option.bind_some]
    have hpl := pieces_length l (by omega)
    have hc := cntP_asc r (pieces_asc l)
    rw [pieces_has, hr, Bool.and_true] at hc
    have h1 := each_l0 l r hr (piecesOf l) (pieces_good l) (by omega) (piecesOf l).length 2999999 0 0 (by omega) (by omega) (by omega) (by omega)
    rw [List.drop_zero, Int.zero_add, hc] at h1
    rw [show ((0 : Nat) : Int) = 0 from rfl] at h1
    rw [h1]
    obtain ⟨k', hk'⟩ : ∃ k', 2999999 - (piecesOf l).length = k' + 1 := ⟨2999998 - (piecesOf l).length, by omega⟩
    rw [hk', exegetelaw03_SeqsEach.l0, if_neg (by rw [List.length_map]; omega)]
    unfold ranges_Has.f
    cases hasB l r <;> simp
  · rw [if_neg hr, Option.bind_some, if_pos rfl]
    by_cases c1 : (l.length : Int) > 20
    · rw [if_pos c1]; simp only [exegetelaw03_SeqsEach.j0, if_true]
    · rw [if_neg c1]; simp only [exegetelaw03_SeqsEach.j0, Bool.not_false, if_true]
end Go.Proofs.Ytcdahnkdongmdaa.Pure
