/- The program's and the document's loops over ranges, in plain words. -/
import Derived.Test.YtnfekgjkgiobfaaAllx2
import Derived.Test.YtnfekgjkgiobfaaAllx3
import Derived.Test.YtnfekgjkgiobfaaAllx4
import Derived.Test.YtnfekgjkgiobfaaAllx7
import Derived.Test.YtnfekgjkgiobfaaAllx8
import Derived.Test.YtnfekgjkgiobfaaNRangesM
namespace Go.Proofs.Ytnfekgjkgiobfaa.Pure
set_option linter.unusedVariables false
set_option linter.unusedSimpArgs false
set_option linter.unnecessarySimpa false
open Go.RowKit Go.Proofs.Ytnfekgjkgiobfaa.All Go.Proofs.YtnfekgjkgiobfaaW.PrintWords Go.Proofs.YtnfekgjkgiobfaaW.PrintLast
open Own
theorem wr {x : Int} (h0 : -9223372036854775808 ≤ x) (h1 : x ≤ 9223372036854775807) : wrap64 x = x := by unfold wrap64; omega
theorem rd_drop {l : List Rg} {i : Nat} (h : i < l.length) : l.drop i = rd_T31 l (i : Int) :: l.drop (i + 1) := by
  rw [List.drop_eq_getElem_cons h]
  simp [rd_T31, List.getD_eq_getElem?_getD, List.getElem?_eq_getElem h]
/-! ### the same -/
def sameB : List Rg → List Rg → Bool
  | [], [] => true
  | r :: t, s :: u => (r.f0 == s.f0 && r.f1 == s.f1) && sameB t u
  | _, _ => false
theorem sameB_self : ∀ l : List Rg, sameB l l = true
  | [] => rfl
  | r :: t => by rw [sameB, sameB_self t]; simp
theorem sameB_eq : ∀ {p q : List Rg}, sameB p q = true → p = q
  | [], [], _ => rfl
  | [], s :: u, h => by cases h
  | r :: t, [], h => by cases h
  | r :: t, s :: u, h => by
    rw [sameB, Bool.and_eq_true, Bool.and_eq_true, beq_iff_eq, beq_iff_eq] at h
    obtain ⟨⟨h1, h2⟩, h3⟩ := h
    rw [sameB_eq h3]
    cases r; cases s; simp only at h1 h2; rw [h1, h2]
theorem sameB_ne {p q : List Rg} (h : p ≠ q) : sameB p q = false := Bool.eq_false_iff.mpr fun h' => h (sameB_eq h')
theorem sameB_length : ∀ {p q : List Rg}, p.length ≠ q.length → sameB p q = false := fun h => sameB_ne fun e => h (by rw [e])
theorem api_l0 (x0 x1 : List Rg) (hl : x0.length = x1.length) (hb : x0.length ≤ 4000000) : ∀ (d k i : Nat), i + d = x0.length → d < k → api_Range.l0 k x0 x1 (x0.length : Int) (i : Int) = some (sameB (x0.drop i) (x1.drop i))
  | d, 0, i, _, h => by omega
  | 0, k + 1, i, h, _ => by
    simp only [api_Range.l0]
    rw [if_neg (by omega), List.drop_eq_nil_of_le (by omega), List.drop_eq_nil_of_le (by omega)]; rfl
  | d + 1, k + 1, i, h, hk => by
    simp only [api_Range.l0]
    rw [if_pos (by omega), if_pos (by omega), if_pos (by omega), if_pos (by omega), rd_drop (show i < x0.length by omega), rd_drop (show i < x1.length by omega), sameB, wr (by omega) (by omega)]
    have hn := api_l0 x0 x1 hl hb d k (i + 1) (by omega) (by omega)
    rw [show ((i + 1 : Nat) : Int) = (i : Int) + 1 by omega] at hn
    rw [hn]
    generalize ((rd_T31 x0 (i : Int)).f0 == (rd_T31 x1 (i : Int)).f0) = b0
    generalize ((rd_T31 x0 (i : Int)).f1 == (rd_T31 x1 (i : Int)).f1) = b1
    cases b0 <;> cases b1 <;> rfl
theorem same_f (k : Nat) (p q : List Rg) (hb : p.length ≤ 4000000) (hk : 4000001 ≤ k) : ranges_Same.f k p q = some (sameB p q) := by
  unfold ranges_Same.f api_Range.f
  by_cases c : (p.length : Int) = (q.length : Int)
  · rw [if_pos c]
    have := api_l0 p q (by omega) hb p.length k 0 (by omega) (by omega)
    rw [List.drop_zero, List.drop_zero] at this
    rw [show ((0 : Nat) : Int) = 0 from rfl] at this
    rw [this]; rfl
  · rw [if_neg c, sameB_length (by omega)]; rfl
theorem rsame_l0 (x0 x1 : List Rg) (hl : x0.length = x1.length) (hb : x0.length ≤ 4000000) : ∀ (d k i : Nat), i + d = x0.length → d < k → exegeteref02_Same.l0 k x0 x1 (i : Int) = some (sameB (x0.drop i) (x1.drop i))
  | d, 0, i, _, h => by omega
  | 0, k + 1, i, h, _ => by
    simp only [exegeteref02_Same.l0]
    rw [if_neg (by omega), List.drop_eq_nil_of_le (by omega), List.drop_eq_nil_of_le (by omega)]; rfl
  | d + 1, k + 1, i, h, hk => by
    simp only [exegeteref02_Same.l0]
    rw [if_pos (by omega), if_pos (by omega), if_pos (by omega), rd_drop (show i < x0.length by omega), rd_drop (show i < x1.length by omega), sameB, wr (by omega) (by omega)]
    have hn := rsame_l0 x0 x1 hl hb d k (i + 1) (by omega) (by omega)
    rw [show ((i + 1 : Nat) : Int) = (i : Int) + 1 by omega] at hn
    rw [hn]
    generalize ((rd_T31 x0 (i : Int)).f0 == (rd_T31 x1 (i : Int)).f0) = b0
    generalize ((rd_T31 x0 (i : Int)).f1 == (rd_T31 x1 (i : Int)).f1) = b1
    cases b0 <;> cases b1 <;> rfl
theorem rsame_f (k : Nat) (p q : List Rg) (hb : p.length ≤ 4000000) (hk : 4000001 ≤ k) : exegeteref02_Same.f k p q = some (sameB p q) := by
  unfold exegeteref02_Same.f
  by_cases c : (p.length : Int) = (q.length : Int)
  · rw [if_pos c]
    have := rsame_l0 p q (by omega) hb p.length k 0 (by omega) (by omega)
    rw [List.drop_zero, List.drop_zero] at this
    exact this
  · rw [if_neg c, sameB_length (by omega)]
/-! ### a number is of some range -/
theorem rhas_l0 (x0 : List Rg) (n : Int) (hb : x0.length ≤ 4000000) : ∀ (d k i : Nat), i + d = x0.length → d < k → exegeteref02_Has.l0 k x0 n (i : Int) = some (hasB (x0.drop i) n)
  | d, 0, i, _, h => by omega
  | 0, k + 1, i, h, _ => by
    simp only [exegeteref02_Has.l0]
    rw [if_neg (by omega), List.drop_eq_nil_of_le (by omega)]; rfl
  | d + 1, k + 1, i, h, hk => by
    simp only [exegeteref02_Has.l0]
    have := rhas_l0 x0 n hb d k (i + 1) (by omega) (by omega)
    rw [show ((i + 1 : Nat) : Int) = (i : Int) + 1 by omega] at this
    rw [if_pos (by omega), if_pos (by omega), rd_drop (show i < x0.length by omega), hasB_cons, wr (by omega) (by omega), this]
    by_cases c : (rd_T31 x0 (i : Int)).f0 ≤ n ∧ n ≤ (rd_T31 x0 (i : Int)).f1
    · rw [if_pos c.1, if_pos c.2, (inR_iff _ n).mpr c]; rfl
    · rw [inR_false c, Bool.false_or]
      by_cases c1 : n ≥ (rd_T31 x0 (i : Int)).f0
      · rw [if_pos c1, if_neg (fun h => c ⟨c1, h⟩)]
      · rw [if_neg c1]
theorem rhas_f (k : Nat) (p : List Rg) (n : Int) (hb : p.length ≤ 4000000) (hk : p.length < k) : exegeteref02_Has.f k p n = some (hasB p n) := by
  unfold exegeteref02_Has.f
  have := rhas_l0 p n hb p.length k 0 (by omega) (by omega)
  rwa [List.drop_zero] at this
/-! ### in order -/
def mayB : Int → List Rg → Bool
  | _, [] => true
  | lo, r :: t => (decide (0 ≤ r.f0) && decide (r.f0 ≤ r.f1) && decide (r.f1 ≤ 1114111) && decide (lo ≤ r.f0)) && mayB (r.f1 + 2) t
theorem mayB_iff : ∀ {l : List Rg} {lo : Int}, 0 ≤ lo → (mayB lo l = true ↔ Canon lo l)
  | [], lo, _ => ⟨fun _ => trivial, fun _ => rfl⟩
  | r :: t, lo, h => by
    rw [mayB, Canon, Bool.and_eq_true, Bool.and_eq_true, Bool.and_eq_true, Bool.and_eq_true, decide_eq_true_eq, decide_eq_true_eq, decide_eq_true_eq, decide_eq_true_eq]
    constructor
    · rintro ⟨⟨⟨⟨h1, h2⟩, h3⟩, h4⟩, h5⟩
      exact ⟨h4, h2, h3, (mayB_iff (by omega)).mp h5⟩
    · rintro ⟨h4, h2, h3, h5⟩
      exact ⟨⟨⟨⟨by omega, h2⟩, h3⟩, h4⟩, (mayB_iff (by omega)).mpr h5⟩
/-- What the loop knows of the range ahead. -/
def Ahead (x0 : List Rg) (lo : Int) (i : Nat) : Prop := (i = 0 ∧ lo = 0) ∨ (0 < i ∧ lo = (rd_T31 x0 ((i : Int) - 1)).f1 + 2 ∧ 0 ≤ (rd_T31 x0 ((i : Int) - 1)).f1 ∧ (rd_T31 x0 ((i : Int) - 1)).f1 ≤ 1114111)
theorem may_l0 (x0 : List Rg) (hb : x0.length ≤ 4000000) (hw : ∀ x ∈ x0, (Lit.int .i64 x.f0).wf = true ∧ (Lit.int .i64 x.f1).wf = true) : ∀ (d k i : Nat) (lo : Int), i + d = x0.length → d < k → Ahead x0 lo i → ranges_May.l0 k x0 x0 (x0.length : Int) (i : Int) = some (mayB lo (x0.drop i))
  | d, 0, i, lo, _, h, _ => by omega
  | 0, k + 1, i, lo, h, _, _ => by
    simp only [ranges_May.l0]
    rw [if_neg (by omega), List.drop_eq_nil_of_le (by omega)]; rfl
  | d + 1, k + 1, i, lo, h, hk, ha => by
    simp only [ranges_May.l0]
    rw [if_pos (by omega), if_pos (by omega), if_pos (by omega), rd_drop (show i < x0.length by omega), mayB]
    generalize hr : rd_T31 x0 (i : Int) = r
    by_cases c1 : 0 ≤ r.f0
    · rw [if_neg (by omega), decide_eq_true c1]
      by_cases c2 : r.f0 ≤ r.f1
      · rw [if_neg (by omega), decide_eq_true c2]
        by_cases c3 : r.f1 ≤ 1114111
        · rw [if_neg (by omega), decide_eq_true c3]
          have hnext : lo ≤ r.f0 → ranges_May.l0 k x0 x0 (x0.length : Int) (wrap64 ((i : Int) + 1)) = some (mayB (r.f1 + 2) (x0.drop (i + 1))) := fun _ => by
            have := may_l0 x0 hb hw d k (i + 1) (r.f1 + 2) (by omega) (by omega) (.inr ⟨by omega, by rw [show (((i + 1 : Nat) : Int) - 1) = (i : Int) by omega, hr], by rw [show (((i + 1 : Nat) : Int) - 1) = (i : Int) by omega, hr]; omega, by rw [show (((i + 1 : Nat) : Int) - 1) = (i : Int) by omega, hr]; omega⟩)
            rw [wr (by omega) (by omega)]
            rw [show ((i + 1 : Nat) : Int) = (i : Int) + 1 by omega] at this
            exact this
          rcases ha with ⟨rfl, rfl⟩ | ⟨hi, rfl, hp0, hp1⟩
          · rw [if_neg (by omega), decide_eq_true c1, hnext c1]; rfl
          · rw [if_pos (by omega), wr (by omega) (by omega), if_pos (by omega), if_pos (by omega), wr (by omega) (by omega)]
            by_cases c4 : (rd_T31 x0 ((i : Int) - 1)).f1 + 2 ≤ r.f0
            · rw [if_neg (by omega), decide_eq_true c4, hnext c4]; rfl
            · rw [if_pos (by omega), decide_eq_false c4]; rfl
        · rw [if_pos (by omega), decide_eq_false c3]; rfl
      · rw [if_pos (by omega), decide_eq_false c2]; rfl
    · rw [if_pos (by omega), decide_eq_false c1]; rfl
theorem may_f (k : Nat) (p : List Rg) (hb : p.length ≤ 4000000) (hw : ∀ x ∈ p, (Lit.int .i64 x.f0).wf = true ∧ (Lit.int .i64 x.f1).wf = true) (hk : p.length < k) : ranges_May.f k p = some (mayB 0 p) := by
  unfold ranges_May.f
  have := may_l0 p hb hw p.length k 0 0 (by omega) (by omega) (.inl ⟨rfl, rfl⟩)
  rwa [List.drop_zero] at this
theorem rmay_l0 (x0 : List Rg) (hb : x0.length ≤ 4000000) : ∀ (d k i : Nat) (lo : Int), i + d = x0.length → d < k → Ahead x0 lo i → exegeteref02_May.l0 k x0 (i : Int) = some (mayB lo (x0.drop i))
  | d, 0, i, lo, _, h, _ => by omega
  | 0, k + 1, i, lo, h, _, _ => by
    simp only [exegeteref02_May.l0]
    rw [if_neg (by omega), List.drop_eq_nil_of_le (by omega)]; rfl
  | d + 1, k + 1, i, lo, h, hk, ha => by
    simp only [exegeteref02_May.l0]
    rw [if_pos (by omega), if_pos (by omega), rd_drop (show i < x0.length by omega), mayB]
    generalize hr : rd_T31 x0 (i : Int) = r
    by_cases c2 : r.f0 ≤ r.f1
    · rw [if_neg (by omega), decide_eq_true c2]
      by_cases c1 : 0 ≤ r.f0
      · rw [if_neg (by omega), decide_eq_true c1]
        by_cases c3 : r.f1 ≤ 1114111
        · rw [if_neg (by omega), decide_eq_true c3]
          have hnext : lo ≤ r.f0 → exegeteref02_May.l0 k x0 (wrap64 ((i : Int) + 1)) = some (mayB (r.f1 + 2) (x0.drop (i + 1))) := fun _ => by
            have := rmay_l0 x0 hb d k (i + 1) (r.f1 + 2) (by omega) (by omega) (.inr ⟨by omega, by rw [show (((i + 1 : Nat) : Int) - 1) = (i : Int) by omega, hr], by rw [show (((i + 1 : Nat) : Int) - 1) = (i : Int) by omega, hr]; omega, by rw [show (((i + 1 : Nat) : Int) - 1) = (i : Int) by omega, hr]; omega⟩)
            rw [wr (by omega) (by omega)]
            rw [show ((i + 1 : Nat) : Int) = (i : Int) + 1 by omega] at this
            exact this
          rcases ha with ⟨rfl, rfl⟩ | ⟨hi, rfl, hp0, hp1⟩
          · rw [if_neg (by omega), hnext c1]; simp [c1]
          · rw [if_pos (by omega), wr (by omega) (by omega), if_pos (by omega), if_pos (by omega), wr (by omega) (by omega)]
            by_cases c4 : (rd_T31 x0 ((i : Int) - 1)).f1 + 2 ≤ r.f0
            · rw [if_neg (by omega), decide_eq_true c4, hnext c4]; rfl
            · rw [if_pos (by omega), decide_eq_false c4]; rfl
        · rw [if_pos (by omega), decide_eq_false c3]; rfl
      · rw [if_pos (by omega), decide_eq_false c1]; rfl
    · rw [if_pos (by omega), decide_eq_false c2, Bool.and_false]; rfl
theorem rmay_f (k : Nat) (p : List Rg) (hb : p.length ≤ 4000000) (hk : p.length < k) : exegeteref02_May.f k p = some (mayB 0 p) := by
  unfold exegeteref02_May.f
  have := rmay_l0 p hb p.length k 0 0 (by omega) (by omega) (.inl ⟨rfl, rfl⟩)
  rwa [List.drop_zero] at this
theorem Upto.may {F : Int → Bool} {p : List Rg} {a : Int} (h : Upto F p a) : mayB 0 p = true := (mayB_iff (Int.le_refl _)).mpr h.can
theorem Canon.wf {lo : Int} {p : List Rg} (h : Canon lo p) (h0 : 0 ≤ lo) : ∀ x ∈ p, (Lit.int .i64 x.f0).wf = true ∧ (Lit.int .i64 x.f1).wf = true := fun x hx => by
  have := h.mem x hx
  have h1 : IntKind.i64.min = -9223372036854775808 := by decide
  have h2 : IntKind.i64.max = 9223372036854775807 := by decide
  constructor <;> (simp only [Lit.wf, h1, h2, Bool.and_eq_true, decide_eq_true_eq]; omega)
/-! ### as many numbers -/
theorem size_l0 (x0 : List Rg) (hb : x0.length ≤ 4000000) : ∀ (d k i : Nat) (s lo : Int), i + d = x0.length → d < k → Canon lo (x0.drop i) → 0 ≤ lo → lo ≤ 1114113 → 0 ≤ s → s ≤ lo → ranges_Size.l0 k s x0 (x0.length : Int) (i : Int) = some (s + sizeB (x0.drop i))
  | d, 0, i, s, lo, _, h, _, _, _, _, _ => by omega
  | 0, k + 1, i, s, lo, h, _, _, _, _, _, _ => by
    simp only [ranges_Size.l0]
    rw [if_neg (by omega), List.drop_eq_nil_of_le (by omega), sizeB, Int.add_zero]
  | d + 1, k + 1, i, s, lo, h, hk, hc, h0, h1, h2, h3 => by
    simp only [ranges_Size.l0]
    rw [rd_drop (show i < x0.length by omega)] at hc ⊢
    obtain ⟨p1, p2, p3, p4⟩ := hc
    rw [if_pos (by omega), if_pos (by omega), if_pos (by omega), sizeB, wr (x := (rd_T31 x0 (i : Int)).f1 - (rd_T31 x0 (i : Int)).f0) (by omega) (by omega), wr (x := (rd_T31 x0 (i : Int)).f1 - (rd_T31 x0 (i : Int)).f0 + 1) (by omega) (by omega), wr (x := s + _) (by omega) (by omega), wr (by omega) (by omega)]
    have := size_l0 x0 hb d k (i + 1) (s + ((rd_T31 x0 (i : Int)).f1 - (rd_T31 x0 (i : Int)).f0 + 1)) _ (by omega) (by omega) p4 (by omega) (by omega) (by omega) (by omega)
    rw [show ((i + 1 : Nat) : Int) = (i : Int) + 1 by omega] at this
    rw [this]; congr 1; omega
theorem size_f (k : Nat) (p : List Rg) (hb : p.length ≤ 100000) (hk : 4000001 ≤ k) : ranges_Size.f k p = some (sizeB (pickB (hasB p) p)) := by
  unfold ranges_Size.f ranges_Norm.f
  rw [if_pos hb, Option.bind_some]
  have hu := norm_upto p
  have hlen := pickB_length (hasB p) p
  have := size_l0 (pickB (hasB p) p) (by omega) (pickB (hasB p) p).length k 0 0 0 (by omega) (by omega) (by rw [List.drop_zero]; exact hu.can) (by omega) (by omega) (by omega) (by omega)
  rw [List.drop_zero, Int.zero_add] at this
  exact this
theorem rsize_l0 (x0 : List Rg) (hb : x0.length ≤ 4000000) : ∀ (d k i : Nat) (s lo : Int), i + d = x0.length → d < k → Canon lo (x0.drop i) → 0 ≤ lo → lo ≤ 1114113 → 0 ≤ s → s ≤ lo → exegeteref02_Size.l0 k s x0 (i : Int) = some (s + sizeB (x0.drop i))
  | d, 0, i, s, lo, _, h, _, _, _, _, _ => by omega
  | 0, k + 1, i, s, lo, h, _, _, _, _, _, _ => by
    simp only [exegeteref02_Size.l0]
    rw [if_neg (by omega), List.drop_eq_nil_of_le (by omega), sizeB, Int.add_zero]
  | d + 1, k + 1, i, s, lo, h, hk, hc, h0, h1, h2, h3 => by
    simp only [exegeteref02_Size.l0]
    rw [rd_drop (show i < x0.length by omega)] at hc ⊢
    obtain ⟨p1, p2, p3, p4⟩ := hc
    rw [if_pos (by omega), if_pos (by omega), sizeB, wr (x := s + (rd_T31 x0 (i : Int)).f1) (by omega) (by omega), wr (x := s + (rd_T31 x0 (i : Int)).f1 - (rd_T31 x0 (i : Int)).f0) (by omega) (by omega), wr (x := s + (rd_T31 x0 (i : Int)).f1 - (rd_T31 x0 (i : Int)).f0 + 1) (by omega) (by omega), wr (by omega) (by omega)]
    have := rsize_l0 x0 hb d k (i + 1) (s + (rd_T31 x0 (i : Int)).f1 - (rd_T31 x0 (i : Int)).f0 + 1) _ (by omega) (by omega) p4 (by omega) (by omega) (by omega) (by omega)
    rw [show ((i + 1 : Nat) : Int) = (i : Int) + 1 by omega] at this
    rw [this]; congr 1; omega
/-! ### the chapter's example -/
theorem awake_f (k : Nat) (hk : 4000001 ≤ k) : exegetelaw02_awake.f k = some true := by
  unfold exegetelaw02_awake.f
  rw [Option.bind_some]
  have hn : ranges_Norm.f [(⟨3, 5⟩ : Rg), ⟨6, 9⟩] = some [⟨3, 9⟩] := by
    unfold ranges_Norm.f
    rw [if_pos (by decide)]
    congr 1
    refine (norm_upto _).ext (G := fun n => decide (3 ≤ n) && decide (n ≤ 9)) ⟨by simp [Canon], by simp, fun n => ?_⟩ fun n h0 h1 => ?_
    · rw [hasB_cons, hasB_nil, Bool.or_false, inR]
      by_cases c : 3 ≤ n ∧ n ≤ 9
      · rw [decide_eq_true c.1, decide_eq_true c.2, decide_eq_true (show 0 ≤ n by omega), decide_eq_true (show n < 1114112 by omega)]; rfl
      · by_cases c1 : 3 ≤ n
        · rw [decide_eq_false (show ¬ n ≤ 9 by omega)]; simp
        · rw [decide_eq_false c1]; simp
    · rw [hasB_cons, hasB_cons, hasB_nil, Bool.or_false, Bool.eq_iff_iff, Bool.or_eq_true, inR_iff, inR_iff, Bool.and_eq_true, decide_eq_true_eq, decide_eq_true_eq]
      show (3 ≤ n ∧ n ≤ 5) ∨ (6 ≤ n ∧ n ≤ 9) ↔ _
      omega
  rw [hn]
  have hm1 : ranges_May.f k [(⟨3, 9⟩ : Rg)] = some true := (may_f k _ (by simp) (by intro x hx; rcases List.mem_singleton.mp hx with rfl; decide) (by simp; omega)).trans (by decide)
  have hm2 : ranges_May.f k [(⟨3, 5⟩ : Rg), ⟨6, 9⟩] = some false := (may_f k _ (by simp) (by intro x hx; simp only [List.mem_cons, List.not_mem_nil, or_false] at hx; rcases hx with rfl | rfl <;> decide) (by simp; omega)).trans (by decide)
  have hs : ranges_Size.f k [(⟨3, 5⟩ : Rg), ⟨6, 9⟩] = some 7 := by
    rw [size_f k _ (by simp) hk]
    have : pickB (hasB [(⟨3, 5⟩ : Rg), ⟨6, 9⟩]) [(⟨3, 5⟩ : Rg), ⟨6, 9⟩] = [⟨3, 9⟩] := by
      unfold ranges_Norm.f at hn
      rw [if_pos (by decide)] at hn
      exact Option.some.inj hn
    rw [this]; rfl
  simp only [Option.bind_some]
  rw [if_pos (by decide), if_pos (by decide), if_pos (by decide), hm1, hm2, hs]
  rfl
end Go.Proofs.Ytnfekgjkgiobfaa.Pure
