/- Texts of the claim TermTells, merged, without what it does not use. -/
import Derived.Test.YtcdahnkdongmdaaZTermTellsX15
import Derived.Test.YtcdahnkdongmdaaZTermTellsX16
import Derived.Test.YtcdahnkdongmdaaZTermTellsX14
import Derived.Test.YtcdahnkdongmdaaZTermTellsX22
import Derived.Test.YtcdahnkdongmdaaZTermTellsN15
import Derived.Test.YtcdahnkdongmdaaZTermTellsN12
namespace Go.Proofs.Ytcdahnkdongmdaa.Pure.Ref
set_option linter.unusedVariables false
set_option linter.unusedSimpArgs false
set_option linter.unnecessarySimpa false
open Go.RowKit Go.Proofs.Ytcdahnkdongmdaa.All Go.Proofs.YtcdahnkdongmdaaW.PrintWords Go.Proofs.YtcdahnkdongmdaaW.PrintLast
open Own
theorem rfits_l0 (s : List Rg) (hs : s.length ≤ 1000) (b : List Int) (hb : Bytes b) (hl : b.length ≤ 1000000) (a : Nat) (ha : a ≤ b.length) : ∀ (d k i : Nat), i + d = s.length → d < k →
    exegeteref03_fits.l0 k s b (a : Int) (i : Int) = some ((i + fitsB (s.drop i) (b.drop (a + i)) : Nat) : Int)
  | d, 0, i, _, h => by omega
  | 0, k + 1, i, h, _ => by
    have e : fitsB (s.drop i) (b.drop (a + i)) = 0 := by rw [List.drop_eq_nil_of_le (by omega)]; simp [fitsB]
    rw [exegeteref03_fits.l0, if_neg (by omega), e]
    exact congrArg some (by omega)
  | d + 1, k + 1, i, h, hk => by
    have hw : wrap64 ((a : Int) + (i : Int)) = ((a + i : Nat) : Int) := by rw [wrq (by omega) (by omega)]; omega
    rw [exegeteref03_fits.l0, if_pos (by omega), hw, rd_dropq (show i < s.length by omega)]
    by_cases c : a + i ≥ b.length
    · rw [if_pos (by omega), List.drop_eq_nil_of_le (show b.length ≤ a + i from c)]
      have e : fitsB (rd_T35 s (i : Int) :: s.drop (i + 1)) [] = 0 := by simp [fitsB]
      rw [e]; rfl
    · have hnx := rfits_l0 s hs b hb hl a ha d k (i + 1) (by omega) (by omega)
      rw [show ((i + 1 : Nat) : Int) = (i : Int) + 1 by omega] at hnx
      have hby := rd_byte hb (a := ((a + i : Nat) : Int)) (by omega) (by omega)
      have hwr : wrap64 (rd b ((a + i : Nat) : Int)) = rd b ((a + i : Nat) : Int) := wrq (by omega) (by omega)
      rw [if_neg (by omega), if_pos (by omega), if_pos (by omega), if_pos (by omega), hwr, rd_drop_i (show a + i < b.length by omega), fitsB, hwr]
      by_cases c1 : rd b ((a + i : Nat) : Int) < (rd_T35 s (i : Int)).f0
      · rw [if_pos c1, if_neg (by omega)]; rfl
      · rw [if_neg c1]
        by_cases c2 : rd b ((a + i : Nat) : Int) > (rd_T35 s (i : Int)).f1
        · rw [if_pos c2, if_neg (by omega)]; rfl
        · rw [if_neg c2, if_pos (by omega), wrq (x := (i : Int) + 1) (by omega) (by omega), hnx, show a + (i + 1) = a + i + 1 by omega]
          exact congrArg some (by omega)
theorem rfits_f (s : List Rg) (hs : s.length ≤ 1000) (b : List Int) (hb : Bytes b) (hl : b.length ≤ 1000000) (a : Int) (h0 : 0 ≤ a) (h1 : a ≤ (b.length : Int)) (k : Nat) (hk : s.length < k) :
    exegeteref03_fits.f k s b a = some ((fitsB s (b.drop a.toNat) : Nat) : Int) := by
  unfold exegeteref03_fits.f
  have := rfits_l0 s hs b hb hl a.toNat (by omega) s.length k 0 (by omega) hk
  rw [show ((a.toNat : Nat) : Int) = a by omega, List.drop_zero, Nat.add_zero, Nat.zero_add] at this
  exact this
theorem rpart_l0 (L : List (List Rg)) (hL : L.length ≤ 1000000) (hs : ∀ s ∈ L, s.length ≤ 1000) (b : List Int) (hb : Bytes b) (hl : b.length ≤ 1000000) (a : Int) (h0 : 0 ≤ a) (h1 : a ≤ (b.length : Int)) : ∀ (d k i : Nat) (best : Int), i + d = L.length → 1001 + d < k →
    exegeteref03_Part.l0 k L b a best (i : Int) = some (prt best (L.drop i) (b.drop a.toNat))
  | d, 0, i, _, _, h => by omega
  | 0, k + 1, i, best, h, _ => by
    rw [exegeteref03_Part.l0, if_neg (by omega), List.drop_eq_nil_of_le (by omega)]; rfl
  | d + 1, k + 1, i, best, h, hk => by
    have hm : rd_L2 L (i : Int) ∈ L := by
      have e : rd_L2 L (i : Int) = L[i] := by simp [rd_L2, List.getD_eq_getElem?_getD, List.getElem?_eq_getElem (show i < L.length by omega)]
      rw [e]; exact List.getElem_mem _
    have hsl := hs _ hm
    have hnx := fun bst => rpart_l0 L hL hs b hb hl a h0 h1 d k (i + 1) bst (by omega) (by omega)
    rw [show ((i + 1 : Nat) : Int) = (i : Int) + 1 by omega] at hnx
    rw [exegeteref03_Part.l0, if_pos (by omega), if_pos (by omega), rfits_f _ hsl b hb hl a h0 h1 k (by omega), Option.bind_some, wrq (x := (i : Int) + 1) (by omega) (by omega), hnx, hnx, rd_L2_drop (show i < L.length by omega), prt]
    unfold mx
    by_cases c : best < ((fitsB (rd_L2 L (i : Int)) (b.drop a.toNat) : Nat) : Int)
    · rw [if_pos (show _ > best from c), if_pos c]
    · rw [if_neg (show ¬ _ > best from c), if_neg c]
theorem rprt_f (L : List (List Rg)) (hL : L.length ≤ 1000000) (hs : ∀ s ∈ L, s.length ≤ 1000) (b : List Int) (hb : Bytes b) (hl : b.length ≤ 1000000) (a : Int) (k : Nat) (hk : L.length + 1010 ≤ k) :
    exegeteref03_Part.f k L b a = some (if 0 ≤ a ∧ a ≤ (b.length : Int) then prt 0 L (b.drop a.toNat) else 0) := by
  unfold exegeteref03_Part.f
  obtain ⟨k', rfl⟩ : ∃ k', k = k' + 1 := ⟨k - 1, by omega⟩
  by_cases c : a < 0
  · rw [if_pos c, if_neg (by omega), exegeteref03_Part.j0, if_pos rfl]
  · rw [if_neg c]
    by_cases c2 : a > (b.length : Int)
    · rw [decide_eq_true c2, if_neg (by omega), exegeteref03_Part.j0, if_pos rfl]
    · rw [decide_eq_false c2, if_pos (by omega), exegeteref03_Part.j0, if_neg (by decide)]
      have := rpart_l0 L hL hs b hb hl a (by omega) (by omega) L.length k' 0 0 (by omega) (by omega)
      rw [List.drop_zero] at this
      exact this
theorem rmatch_f (k : Nat) (hk : 200 ≤ k) (kind n : Int) (l : List Rg) (hl : l.length ≤ 100) (b : List Int) (hb : Bytes b) (hb2 : b.length ≤ 1000000) (a : Int) : exegeteref14_Match.f k kind l n b a = some (termM kind l b a, decide (termM kind l b a > 0)) := by
  obtain ⟨k, rfl⟩ : ∃ k', k = k' + 1 := ⟨k - 1, by omega⟩
  have hout : (a < 0 ∨ (b.length : Int) ≤ a) → termM kind l b a = 0 := by
    intro h
    have hi := term_in kind l b a
    omega
  unfold exegeteref14_Match.f
  by_cases c : a < 0
  · rw [if_pos c, exegeteref14_Match.j0, if_pos rfl, hout (.inl c)]; rfl
  rw [if_neg c]
  by_cases c2 : a ≥ (b.length : Int)
  · rw [decide_eq_true c2, exegeteref14_Match.j0, if_pos rfl, hout (.inr c2)]; rfl
  rw [decide_eq_false c2, exegeteref14_Match.j0, if_neg (by decide)]
  have hby := rd_byte hb (a := a) (by omega) (by omega)
  have t1 : termM 1 l b a = if 0 ≤ (nextOf b a).1 ∧ hasB l (nextOf b a).1 = true then (nextOf b a).2 else 0 := by
    unfold termM
    rw [if_neg (by decide), if_pos rfl, setM_next l b hb a]
  have t0 : termM 0 l b a = if hasB l (rd b a) = true then 1 else 0 := by
    unfold termM octB
    rw [if_pos rfl, if_pos ⟨by omega, by omega⟩]
  have hn : 0 ≤ (nextOf b a).1 → 0 < (nextOf b a).2 := by
    intro h0
    rw [nextq_in b a (by omega) (by omega)] at h0 ⊢
    rcases next_cases _ (hb.drop a.toNat) with ⟨r, hr, hp, e⟩ | ⟨_, e⟩
    · rw [e]
      have h2 := sz_range r
      show 0 < szOf r; omega
    · rw [e] at h0; simp at h0
  by_cases c0 : kind = 0
  · subst c0
    rw [if_pos rfl, if_pos (by omega), if_pos (by omega), wrq (x := rd b a) (by omega) (by omega), rhas_f k l _ (by omega) (by omega), Option.bind_some, t0]
    cases hasB l (rd b a) <;> rfl
  · rw [if_neg c0, rnext_f b a hb (by omega) k (by omega), Option.bind_some, rhas_f k l _ (by omega) (by omega), Option.bind_some]
    by_cases c1 : kind = 1
    · subst c1
      rw [if_pos rfl, t1]
      generalize (nextOf b a).1 = r at *
      generalize (nextOf b a).2 = m at *
      by_cases h0 : 0 ≤ r
      · have h1 := hn h0
        rw [if_pos (show r ≥ 0 from h0)]
        cases hasB l r <;> simp [h0, h1]
      · rw [if_neg (show ¬ r ≥ 0 from h0), if_neg (fun h => h0 h.1)]; rfl
    · rw [if_neg c1]
      have e : termM kind l b a = 0 := by unfold termM; rw [if_neg c0, if_neg c1]
      rw [e]; rfl
theorem rtexts_l0 (L : List S43) (hL : L.length ≤ 10) (hS : ∀ s ∈ L, s.f1.length ≤ 20) (b : List Int) (hb : Bytes b) (hb2 : b.length ≤ 200) : ∀ (d k i : Nat) (a : Int) (acc : List Int), i + d = L.length → 2000 + d < k → acc.length ≤ i →
    exegeteref14_Texts.l0 k L b a acc (i : Int) = some (acc ++ textsOf (L.drop i) b a)
  | d, 0, i, _, _, _, h, _ => by omega
  | 0, k + 1, i, a, acc, h, _, _ => by
    rw [exegeteref14_Texts.l0, if_neg (by omega), List.drop_eq_nil_of_le (by omega), textsOf, List.append_nil]
  | d + 1, k + 1, i, a, acc, h, hk, hacc => by
    have hs := hS _ (rd_sym_mem (show i < L.length by omega))
    rw [exegeteref14_Texts.l0, if_pos (by omega), if_pos (by omega), rmatch_f k (by omega) _ _ _ (by omega) b hb (by omega) a, Option.bind_some, rd_sym_drop (show i < L.length by omega), textsOf]
    by_cases c : termM (rd_T43 L (i : Int)).f0 (rd_T43 L (i : Int)).f1 b a > 0
    · have hst := (term_step _ b hb2 a c).1
      have hnx := rtexts_l0 L hL hS b hb hb2 d k (i + 1) (a + termM (rd_T43 L (i : Int)).f0 (rd_T43 L (i : Int)).f1 b a) (acc ++ [a + termM (rd_T43 L (i : Int)).f0 (rd_T43 L (i : Int)).f1 b a]) (by omega) (by omega) (by simp; omega)
      rw [show ((i + 1 : Nat) : Int) = (i : Int) + 1 by omega] at hnx
      rw [if_pos (decide_eq_true c), if_pos c]
      try dsimp only
      rw [if_pos (by omega), hst, wrq (show -9223372036854775808 ≤ (i : Int) + 1 by omega) (by omega), hnx, List.append_assoc]
      rfl
    · rw [if_neg (by simpa using c), if_neg c, List.append_nil]
theorem rtexts_f (L : List S43) (hL : L.length ≤ 10) (hS : ∀ s ∈ L, s.f1.length ≤ 20) (b : List Int) (hb : Bytes b) (hb2 : b.length ≤ 200) (a : Int) (k : Nat) (hk : 2020 ≤ k) : exegeteref14_Texts.f k L b a = some (textsOf L b a) := by
  unfold exegeteref14_Texts.f
  have := rtexts_l0 L hL hS b hb hb2 L.length k 0 a [] (by omega) (by omega) (by simp)
  rw [List.drop_zero, List.nil_append] at this
  exact this
theorem rints_l0 (T : List Int) (hT : T.length ≤ 1000) : ∀ (d k i : Nat), i + d = T.length → d < k → exegeteref04_Ints.l0 k T T (i : Int) = some true
  | d, 0, i, _, h => by omega
  | 0, k + 1, i, h, _ => by
    rw [exegeteref04_Ints.l0, if_neg (by omega)]
  | d + 1, k + 1, i, h, hk => by
    have hnx := rints_l0 T hT d k (i + 1) (by omega) (by omega)
    rw [show ((i + 1 : Nat) : Int) = (i : Int) + 1 by omega] at hnx
    rw [exegeteref04_Ints.l0, if_pos (by omega), if_pos (by omega), if_pos (by omega), if_pos rfl, wrq (by omega) (by omega), hnx]
theorem rints_f (T : List Int) (hT : T.length ≤ 1000) (k : Nat) (hk : T.length < k) : exegeteref04_Ints.f k T T = some true := by
  unfold exegeteref04_Ints.f
  rw [if_pos rfl]
  exact rints_l0 T hT T.length k 0 (by omega) hk
theorem rtpart_f (kind n : Int) (l : List Rg) (hl : l.length ≤ 60) (b : List Int) (hb : Bytes b) (hb2 : b.length ≤ 1000000) (a : Int) : Ev (fun k => exegeteref14_Part.f k kind l n b a) (termP kind l b a) := by
  have hm : Ev (fun k => exegeteref14_Match.f k kind l n b a) (termM kind l b a, decide (termM kind l b a > 0)) := evk 200 fun k hk => rmatch_f k hk kind n l (by omega) b hb hb2 a
  refine Ev.bind (f := fun k (t : Int × Bool) => if kind = 0 then some t.1 else if kind = 1 then (exegeteref03_Of.f k l).bind fun t390 => (exegeteref03_Part.f k t390 b a).bind fun t393 => some t393 else some 0) hm ?_
  try dsimp only
  by_cases c0 : kind = 0
  · have e : termP kind l b a = termM kind l b a := by unfold termP termM; rw [if_pos c0, if_pos c0]
    rw [e]
    refine Ev.congr (fun k => ?_) (Ev.now _)
    rw [if_pos c0]
  · by_cases c1 : kind = 1
    · have e : termP kind l b a = setP l b a := by unfold termP; rw [if_neg c0, if_pos c1]
      rw [e]
      have hpl := pieces_length l (by omega)
      have hpg := pieces_good l
      have hp : Ev (fun k => (exegeteref03_Part.f k ((piecesOf l).map oneB) b a).bind fun t393 => some t393) (setP l b a) := evk 800000 fun k hk => by
        rw [rprt_f _ (by rw [List.length_map]; omega) (fun s hs => by
          obtain ⟨x, hx, rfl⟩ := List.mem_map.mp hs
          have := one_len4 (hpg x hx)
          omega) b hb hb2 a k (by rw [List.length_map]; omega)]
        rfl
      refine Ev.congr (fun k => ?_) (Ev.bind (f := fun k t390 => (exegeteref03_Part.f k t390 b a).bind fun t393 => some t393) (rof_f l hl) hp)
      rw [if_neg c0, if_pos c1]
    · have e : termP kind l b a = 0 := by unfold termP; rw [if_neg c0, if_neg c1]
      rw [e]
      refine Ev.congr (fun k => ?_) (Ev.now _)
      rw [if_neg c0, if_neg c1]
end Go.Proofs.Ytcdahnkdongmdaa.Pure.Ref
