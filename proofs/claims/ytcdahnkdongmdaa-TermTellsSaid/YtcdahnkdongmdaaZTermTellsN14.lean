/- Texts of the claim TermTells, merged, without what it does not use. -/
import Derived.Test.YtcdahnkdongmdaaZTermTellsX12
import Derived.Test.YtcdahnkdongmdaaZTermTellsX19
import Derived.Test.YtcdahnkdongmdaaZTermTellsX17
import Derived.Test.YtcdahnkdongmdaaZTermTellsX18
import Derived.Test.YtcdahnkdongmdaaZTermTellsX20
import Derived.Test.YtcdahnkdongmdaaZTermTellsN3
namespace Go.Proofs.Ytcdahnkdongmdaa.Pure.Ref
set_option linter.unusedVariables false
set_option linter.unusedSimpArgs false
set_option linter.unnecessarySimpa false
open Go.RowKit Go.Proofs.Ytcdahnkdongmdaa.All Go.Proofs.YtcdahnkdongmdaaW.PrintWords Go.Proofs.YtcdahnkdongmdaaW.PrintLast
open Own
theorem wr {x : Int} (h0 : -9223372036854775808 ≤ x) (h1 : x ≤ 9223372036854775807) : wrap64 x = x := by unfold wrap64; omega
theorem rd_drop {l : List Rg} {i : Nat} (h : i < l.length) : l.drop i = rd_T35 l (i : Int) :: l.drop (i + 1) := by
  rw [List.drop_eq_getElem_cons h]
  simp [rd_T35, List.getD_eq_getElem?_getD, List.getElem?_eq_getElem h]
theorem rhas_l0 (x0 : List Rg) (n : Int) (hb : x0.length ≤ 4000000) : ∀ (d k i : Nat), i + d = x0.length → d < k → exegeteref02_Has.l0 k x0 n (i : Int) = some (hasB (x0.drop i) n)
  | d, 0, i, _, h => by omega
  | 0, k + 1, i, h, _ => by
    simp only [exegeteref02_Has.l0]
    rw [if_neg (by omega), List.drop_eq_nil_of_le (by omega)]; rfl
  | d + 1, k + 1, i, h, hk => by
    simp only [exegeteref02_Has.l0]
    have := rhas_l0 x0 n hb d k (i + 1) (by omega) (by omega)
    rw [show ((i + 1 : Nat) : Int) = (i : Int) + 1 by omega] at this
    rw [if_pos (by omega), if_pos (by omega), rd_drop (show i < x0.length by omega), hasB_cons, wr (by omega) (by omega), this]
    by_cases c : (rd_T35 x0 (i : Int)).f0 ≤ n ∧ n ≤ (rd_T35 x0 (i : Int)).f1
    · rw [if_pos c.1, if_pos c.2, (inR_iff _ n).mpr c]; rfl
    · rw [inR_false c, Bool.false_or]
      by_cases c1 : n ≥ (rd_T35 x0 (i : Int)).f0
      · rw [if_pos c1, if_neg (fun h => c ⟨c1, h⟩)]
      · rw [if_neg c1]
theorem rhas_f (k : Nat) (p : List Rg) (n : Int) (hb : p.length ≤ 4000000) (hk : p.length < k) : exegeteref02_Has.f k p n = some (hasB p n) := by
  unfold exegeteref02_Has.f
  have := rhas_l0 p n hb p.length k 0 (by omega) (by omega)
  rwa [List.drop_zero] at this
def bd1 (n : Int) (r : Rg) (best : Int) : Int :=
  let b := if n < r.f0 ∧ r.f0 < best then r.f0 else best
  if n ≤ r.f1 ∧ r.f1 < b - 1 then r.f1 + 1 else b
def bdr (n : Int) : List Rg → Int → Int
  | [], best => best
  | r :: t, best => bdr n t (bd1 n r best)
theorem bd1_in (n : Int) (r : Rg) (best : Int) (h0 : n < best) : n < bd1 n r best ∧ bd1 n r best ≤ best ∧ ∀ m, n ≤ m → m < bd1 n r best → inR r m = inR r n := by
  have key : n < bd1 n r best ∧ bd1 n r best ≤ best ∧ ∀ m, n ≤ m → m < bd1 n r best → ((r.f0 ≤ m ∧ m ≤ r.f1) ↔ (r.f0 ≤ n ∧ n ≤ r.f1)) := by
    unfold bd1
    simp only
    by_cases c1 : n < r.f0 ∧ r.f0 < best
    · rw [if_pos c1]
      by_cases c2 : n ≤ r.f1 ∧ r.f1 < r.f0 - 1
      · rw [if_pos c2]; exact ⟨by omega, by omega, fun m h1 h2 => by omega⟩
      · rw [if_neg c2]; exact ⟨by omega, by omega, fun m h1 h2 => by omega⟩
    · rw [if_neg c1]
      by_cases c2 : n ≤ r.f1 ∧ r.f1 < best - 1
      · rw [if_pos c2]; exact ⟨by omega, by omega, fun m h1 h2 => by omega⟩
      · rw [if_neg c2]; exact ⟨by omega, by omega, fun m h1 h2 => by omega⟩
  refine ⟨key.1, key.2.1, fun m h1 h2 => ?_⟩
  rw [Bool.eq_iff_iff, inR_iff, inR_iff]
  exact key.2.2 m h1 h2
theorem bdr_in (n : Int) : ∀ (l : List Rg) (best : Int), n < best → n < bdr n l best ∧ bdr n l best ≤ best ∧ ∀ m, n ≤ m → m < bdr n l best → hasB l m = hasB l n
  | [], best, h0 => ⟨h0, Int.le_refl _, fun m _ _ => rfl⟩
  | r :: t, best, h0 => by
    obtain ⟨h1, h2, h3⟩ := bd1_in n r best h0
    obtain ⟨h4, h5, h6⟩ := bdr_in n t (bd1 n r best) h1
    rw [bdr]
    exact ⟨h4, by omega, fun m h7 h8 => by rw [hasB_cons, hasB_cons, h6 m h7 h8, h3 m h7 (by omega)]⟩
theorem border_l0 (x0 : List Rg) (n : Int) (hn : 0 ≤ n) (hb : x0.length ≤ 4000000) : ∀ (d k i : Nat) (best : Int), i + d = x0.length → 2 * d < k → n < best → best ≤ 1114112 → exegeteref02_border.l0 k x0 n best (i : Int) = some (bdr n (x0.drop i) best)
  | d, 0, i, best, _, h, _, _ => by omega
  | 0, k + 1, i, best, h, _, _, _ => by
    simp only [exegeteref02_border.l0]
    rw [if_neg (by omega), List.drop_eq_nil_of_le (by omega)]; rfl
  | d + 1, 1, i, best, h, hk, h0, h1 => by omega
  | d + 1, k + 2, i, best, h, hk, h0, h1 => by
    simp only [exegeteref02_border.l0, exegeteref02_border.j1]
    have hnx := fun b h2 h3 => border_l0 x0 n hn hb d k (i + 1) b (by omega) (by omega) h2 h3
    rw [show ((i + 1 : Nat) : Int) = (i : Int) + 1 by omega] at hnx
    obtain ⟨k1, k2, _⟩ := bd1_in n (rd_T35 x0 (i : Int)) best h0
    have hme := hnx (bd1 n (rd_T35 x0 (i : Int)) best) k1 (by omega)
    rw [if_pos (show (i : Int) < (x0.length : Int) by omega), if_pos (show (0 : Int) ≤ (i : Int) by omega), rd_drop (show i < x0.length by omega), bdr]
    rw [← hme, wr (x := (i : Int) + 1) (by omega) (by omega)]
    unfold bd1
    simp only
    generalize rd_T35 x0 (i : Int) = r
    have hi1 : (i : Int) < (x0.length : Int) := by omega
    have hi0 : (0 : Int) ≤ (i : Int) := by omega
    by_cases c1 : r.f0 > n
    · rw [if_pos c1]
      by_cases c2 : r.f0 < best
      · rw [decide_eq_true c2, if_pos rfl, if_pos hi0, if_pos hi1, if_pos (show n < r.f0 ∧ r.f0 < best from ⟨c1, c2⟩), wr (x := r.f0 - 1) (by omega) (by omega)]
        by_cases c3 : r.f1 ≥ n
        · rw [if_pos c3]
          by_cases c4 : r.f1 < r.f0 - 1
          · rw [if_pos c4, if_pos (show n ≤ r.f1 ∧ r.f1 < r.f0 - 1 from ⟨c3, c4⟩), wr (by omega) (by omega)]
          · rw [if_neg c4, if_neg (fun h => c4 h.2)]
        · rw [if_neg c3, if_neg (fun h => c3 h.1)]
      · rw [decide_eq_false c2, if_neg (by decide), if_pos hi0, if_pos hi1, if_neg (show ¬ (n < r.f0 ∧ r.f0 < best) from fun h => c2 h.2), wr (x := best - 1) (by omega) (by omega)]
        by_cases c3 : r.f1 ≥ n
        · rw [if_pos c3]
          by_cases c4 : r.f1 < best - 1
          · rw [if_pos c4, if_pos (show n ≤ r.f1 ∧ r.f1 < best - 1 from ⟨c3, c4⟩), wr (by omega) (by omega)]
          · rw [if_neg c4, if_neg (fun h => c4 h.2)]
        · rw [if_neg c3, if_neg (fun h => c3 h.1)]
    · rw [if_neg c1, if_neg (by decide), if_pos hi0, if_pos hi1, if_neg (show ¬ (n < r.f0 ∧ r.f0 < best) from fun h => c1 h.1), wr (x := best - 1) (by omega) (by omega)]
      by_cases c3 : r.f1 ≥ n
      · rw [if_pos c3]
        by_cases c4 : r.f1 < best - 1
        · rw [if_pos c4, if_pos (show n ≤ r.f1 ∧ r.f1 < best - 1 from ⟨c3, c4⟩), wr (by omega) (by omega)]
        · rw [if_neg c4, if_neg (fun h => c4 h.2)]
      · rw [if_neg c3, if_neg (fun h => c3 h.1)]
theorem border_f (k : Nat) (p : List Rg) (n best : Int) (hn : 0 ≤ n) (hb : p.length ≤ 4000000) (hk : 2 * p.length < k) (h0 : n < best) (h1 : best ≤ 1114112) : exegeteref02_border.f k p n best = some (bdr n p best) := by
  unfold exegeteref02_border.f
  have := border_l0 p n hn hb p.length k 0 best (by omega) hk h0 h1
  rwa [List.drop_zero] at this
def isB (a b : List Rg) (how high n : Int) : Bool :=
  if how = 0 then hasB a n || hasB b n else if how = 1 then hasB a n && hasB b n else if how = 2 then hasB a n && !hasB b n else !hasB a n && decide (n ≤ high)
theorem is_f (k : Nat) (a b : List Rg) (how high n : Int) (ha : a.length ≤ 4000000) (hb : b.length ≤ 4000000) (hk : a.length < k) (hk2 : b.length < k) : exegeteref02_is.f k a b how high n = some (isB a b how high n) := by
  unfold exegeteref02_is.f isB
  rw [rhas_f k a n ha hk, Option.bind_some, rhas_f k b n hb hk2, Option.bind_some]
  generalize hasB a n = x
  generalize hasB b n = y
  by_cases c0 : how = 0
  · rw [if_pos c0, if_pos c0]; cases x <;> rfl
  · rw [if_neg c0, if_neg c0]
    by_cases c1 : how = 1
    · rw [if_pos c1, if_pos c1]; cases x <;> rfl
    · rw [if_neg c1, if_neg c1]
      by_cases c2 : how = 2
      · rw [if_pos c2, if_pos c2]; cases x <;> rfl
      · rw [if_neg c2, if_neg c2]; cases x <;> rfl
def nextB (a b : List Rg) (high n : Int) : Int :=
  let t := bdr n b (bdr n a 1114112)
  if n ≤ high ∧ high < t - 1 then high + 1 else t
theorem nextB_in (a b : List Rg) (how high n : Int) (h : n < 1114112) : n < nextB a b high n ∧ nextB a b high n ≤ 1114112 ∧ ∀ m, n ≤ m → m < nextB a b high n → isB a b how high m = isB a b how high n := by
  obtain ⟨a1, a2, a3⟩ := bdr_in n a 1114112 h
  obtain ⟨b1, b2, b3⟩ := bdr_in n b _ a1
  have hk : n < nextB a b high n ∧ nextB a b high n ≤ bdr n b (bdr n a 1114112) ∧ ∀ m, n ≤ m → m < nextB a b high n → (m ≤ high ↔ n ≤ high) := by
    unfold nextB
    simp only
    by_cases c : n ≤ high ∧ high < bdr n b (bdr n a 1114112) - 1
    · rw [if_pos c]; exact ⟨by omega, by omega, fun m h1 h2 => by omega⟩
    · rw [if_neg c]; exact ⟨by omega, by omega, fun m h1 h2 => by omega⟩
  refine ⟨hk.1, by omega, fun m h1 h2 => ?_⟩
  unfold isB
  rw [a3 m h1 (by omega), b3 m h1 (by omega)]
  have e : decide (m ≤ high) = decide (n ≤ high) := by rw [decide_eq_decide]; exact hk.2.2 m h1 h2
  rw [e]
theorem rd_last (o : List Rg) (r : Rg) : rd_T35 (o ++ [r]) (o.length : Int) = r := by
  simp [rd_T35]
theorem of_l0 (a b : List Rg) (how high : Int) (ha : a.length ≤ 4000000) (hb : b.length ≤ 4000000) (hhi : -9223372036854775808 ≤ high ∧ high ≤ 9223372036854775807) :
    ∀ (d k : Nat) (n : Int) (out : List Rg), n + d = 1114112 → 0 ≤ n → 4 * d + 2 * a.length + 2 * b.length + 4 < k → out.length ≤ n.toNat → Upto (isB a b how high) out n →
      ∃ q, exegeteref02_of.l0 k a b how high out n = some q ∧ Upto (isB a b how high) q 1114112 := by
  intro d
  induction d using Nat.strongRecOn with
  | ind d ih =>
    intro k n out hnd hn0 hk hlen hu
    match k, hk with
    | 0, hk => omega
    | 1, hk => omega
    | 2, hk => omega
    | 3, hk => omega
    | k + 4, hk =>
      by_cases hn : n ≤ 1114111
      · simp only [exegeteref02_of.l0]
        rw [if_pos hn, border_f (k + 3) a n 1114112 hn0 ha (by omega) (by omega) (by omega), Option.bind_some]
        obtain ⟨a1, a2, _⟩ := bdr_in n a 1114112 (by omega)
        rw [border_f (k + 3) b n _ hn0 hb (by omega) a1 a2, Option.bind_some]
        obtain ⟨b1, b2, _⟩ := bdr_in n b _ a1
        obtain ⟨x1, x2, x3⟩ := nextB_in a b how high n (by omega)
        have ej1 : (if high ≥ n then exegeteref02_of.j1 (k + 3) a b how high out n (bdr n b (bdr n a 1114112)) (decide (high < wrap64 (bdr n b (bdr n a 1114112) - 1))) else exegeteref02_of.j1 (k + 3) a b how high out n (bdr n b (bdr n a 1114112)) false) = exegeteref02_of.j2 (k + 2) a b how high out n (nextB a b high n) := by
          simp only [exegeteref02_of.j1]
          unfold nextB
          simp only
          rw [wr (x := bdr n b (bdr n a 1114112) - 1) (by omega) (by omega)]
          by_cases c1 : high ≥ n
          · rw [if_pos c1]
            by_cases c2 : high < bdr n b (bdr n a 1114112) - 1
            · rw [decide_eq_true c2, if_pos rfl, if_pos ⟨c1, c2⟩, wr (by omega) (by omega)]
            · rw [decide_eq_false c2, if_neg (by decide), if_neg (fun h => c2 h.2)]
          · rw [if_neg c1, if_neg (by decide), if_neg (fun h => c1 h.1)]
        rw [ej1]
        generalize nextB a b high n = nx at *
        have hput := hu.put hn0 x1 x2 x3
        have ej2 : exegeteref02_of.j2 (k + 2) a b how high out n nx = exegeteref02_of.l0 k a b how high (putB (isB a b how high) out (n, nx - 1)) nx := by
          simp only [exegeteref02_of.j2]
          rw [is_f (k + 1) a b how high n ha hb (by omega) (by omega), Option.bind_some]
          have hl2 : wrap64 ((out.length : Int) - 1) = (out.length : Int) - 1 := wr (by omega) (by omega)
          rw [hl2, wr (x := n - 1) (by omega) (by omega)]
          unfold putB
          simp only
          cases hF : isB a b how high n with
          | false =>
            rw [if_neg (by decide), if_neg (by decide)]
            simp only [exegeteref02_of.j3]
            rw [if_neg (by decide), if_neg (by decide)]
          | true =>
            rw [if_pos rfl, if_pos rfl]
            cases hl : out.getLast? with
            | none =>
              obtain rfl : out = [] := List.getLast?_eq_none_iff.mp hl
              rw [if_neg (by simp)]
              simp only [exegeteref02_of.j3]
              rw [if_neg (by decide), if_pos (by decide), if_pos (by simp), wr (by omega) (by omega)]; rfl
            | some r =>
              obtain ⟨o2, rfl⟩ : ∃ o2, out = o2 ++ [r] := by
                rw [List.getLast?_eq_some_iff] at hl; obtain ⟨ys, hh⟩ := hl; exact ⟨ys, hh⟩
              have e1 : ((o2 ++ [r]).length : Int) - 1 = (o2.length : Int) := by simp
              have e3 : (o2 ++ [r]).length = o2.length + 1 := by simp
              rw [e1, rd_last, if_pos (by omega), if_pos (by omega), if_pos (by rw [e3]; omega)]
              simp only [exegeteref02_of.j3]
              show _ = exegeteref02_of.l0 k a b how high (if r.f1 = wrap64 (n - 1) then (o2 ++ [r]).dropLast ++ [⟨r.f0, nx - 1⟩] else o2 ++ [r] ++ [⟨n, nx - 1⟩]) nx
              rw [wr (x := n - 1) (by omega) (by omega), wr (x := nx - 1) (by omega) (by omega)]
              by_cases c : r.f1 = n - 1
              · rw [beq_iff_eq.mpr c, if_pos rfl, if_pos (by omega), if_pos (by rw [e3]; omega), if_pos c, List.dropLast_concat, rd_last]
                congr 1
                rw [Int.toNat_natCast, List.set_append_right _ _ (Nat.le_refl _), Nat.sub_self]
                rfl
              · rw [beq_eq_false_iff_ne.mpr c, if_neg (by decide), if_pos (by decide), if_pos (by omega), if_neg c]
        rw [ej2]
        have hpl := putB_length (isB a b how high) out (n, nx - 1)
        refine ih (1114112 - nx).toNat (by omega) k nx _ (by omega) (by omega) (by omega) (by omega) hput
      · refine ⟨out, ?_, ?_⟩
        · simp only [exegeteref02_of.l0]
          rw [if_neg hn]
        · obtain rfl : n = 1114112 := by omega
          exact hu
theorem of_f (k : Nat) (a b : List Rg) (how high : Int) (ha : a.length ≤ 4000000) (hb : b.length ≤ 4000000) (hhi : -9223372036854775808 ≤ high ∧ high ≤ 9223372036854775807) (hk : 4456448 + 2 * a.length + 2 * b.length + 4 < k) :
    ∃ q, exegeteref02_of.f k a b how high = some q ∧ Upto (isB a b how high) q 1114112 := by
  unfold exegeteref02_of.f
  exact of_l0 a b how high ha hb hhi 1114112 k 0 [] (by omega) (by omega) (by omega) (by simp) (upto_nil _)
theorem rnorm_f (k : Nat) (a : List Rg) (ha : a.length ≤ 60) (hk : 5000000 ≤ k) : exegeteref02_Norm.f k a = some (pickB (hasB a) a) := by
  obtain ⟨q, h1, h2⟩ := of_f k a [] 0 (-1) (by omega) (by simp) (by omega) (by simp; omega)
  unfold exegeteref02_Norm.f
  rw [h1, Option.bind_some]
  congr 1
  exact h2.ext (norm_upto a) fun n _ _ => by unfold isB; rw [if_pos rfl, hasB_nil, Bool.or_false]
end Go.Proofs.Ytcdahnkdongmdaa.Pure.Ref
