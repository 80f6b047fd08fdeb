/- Of the law LinesEnds: for every list of bytes it tells true. -/
import Derived.Test.YtahabdogohdjeaaDoorAllx12
import Derived.Test.YtahabdogohdjeaaDoorNLinesR
namespace Go.Proofs.YtahabdogohdjeaaDoor.Pure
set_option linter.unusedVariables false
set_option linter.unusedSimpArgs false
set_option linter.unnecessarySimpa false
open Go.RowKit Go.Proofs.YtahabdogohdjeaaDoor.All Go.Proofs.YtahabdogohdjeaaDoorW.PrintWords Go.Proofs.YtahabdogohdjeaaDoorW.PrintLast
theorem eL_head : ∀ (s : List Int) (p : Int), s ≠ [] → ∃ m : Nat, 1 ≤ m ∧ m ≤ s.length ∧ eL p s = (p + m) :: eL (p + m) (s.drop m) ∧ (∀ j, j + 1 < m → rd s (j : Int) ≠ 10) ∧ (m = s.length ∨ rd s ((m - 1 : Nat) : Int) = 10)
  | [], _, h => absurd rfl h
  | [c], p, _ => ⟨1, Nat.le_refl _, Nat.le_refl _, by simp [eL], fun j h => by omega, .inl rfl⟩
  | c :: d :: t, p, _ => by
    by_cases e : c = 10
    · refine ⟨1, Nat.le_refl _, by simp, ?_, fun j h => by omega, .inr (by simpa [rd] using e)⟩
      rw [eL, if_pos (Or.inl e)]; rfl
    · obtain ⟨m, h1, h2, h3, h4, h5⟩ := eL_head (d :: t) (p + 1) (by simp)
      refine ⟨m + 1, by omega, by rw [List.length_cons]; omega, ?_, fun j h => ?_, ?_⟩
      · rw [eL, if_neg (show ¬ (c = 10 ∨ d :: t = []) by simp [e]), h3, show p + 1 + (m : Int) = p + ((m + 1 : Nat) : Int) by omega]; rfl
      · cases j with
        | zero => simpa [rd] using e
        | succ j =>
          have := h4 j (by omega)
          simpa [rd] using this
      · rcases h5 with h5 | h5
        · left; rw [List.length_cons]; omega
        · right
          obtain ⟨m, rfl⟩ : ∃ n, m = n + 1 := ⟨m - 1, by omega⟩
          simpa [rd] using h5
theorem rd_drop (l : List Int) (p j : Nat) : rd (l.drop p) (j : Int) = rd l ((p + j : Nat) : Int) := by
  simp only [rd, Int.toNat_natCast]
  rw [List.getD_eq_getElem?_getD, List.getD_eq_getElem?_getD, List.getElem?_drop]
theorem ends_l1 (l E : List Int) (hl : l.length ≤ 300) (i : Int) (hi0 : 0 ≤ i) (hi1 : i < (E.length : Int)) (hE : E.length ≤ 1000) (p e : Int) (hp : 0 ≤ p) (he : rd E i = e) (hel : e ≤ (l.length : Int)) (hf : ∀ q, p ≤ q → q < e - 1 → rd l q ≠ 10)
    (hlast : i < (E.length : Int) - 1 → e ≠ 0 ∧ 0 ≤ e - 1 ∧ rd l (e - 1) = 10) (K : Nat) (cont : ∀ k, K ≤ k → exegetelaw04_LinesEnds.l0 k l E e (i + 1) = some true) :
    ∀ (d k : Nat) (x : Int), e - x ≤ d → p ≤ x → x ≤ e → d + K + 1 ≤ k → exegetelaw04_LinesEnds.l1 k l E i x = some true
  | d, 0, _, _, _, _, h => by omega
  | 0, k + 1, x, hd, hpx, hx, hk => by
    simp only [exegetelaw04_LinesEnds.l1]
    rw [he, if_pos hi0, if_pos hi1, if_neg (by omega), wrap_in _ (by omega) (by omega), wrap_in (i + 1) (by omega) (by omega)]
    by_cases c : i < (E.length : Int) - 1
    · obtain ⟨h1, h2, h3⟩ := hlast c
      rw [if_pos c, if_neg h1, wrap_in _ (by omega) (by omega), if_pos h2, if_pos (by omega), if_pos h3]
      exact cont k (by omega)
    · rw [if_neg c]; exact cont k (by omega)
  | d + 1, k + 1, x, hd, hpx, hx, hk => by
    by_cases c : x < e
    · simp only [exegetelaw04_LinesEnds.l1]
      have ih := ends_l1 l E hl i hi0 hi1 hE p e hp he hel hf hlast K cont d k (x + 1) (by omega) (by omega) (by omega) (by omega)
      rw [he, if_pos hi0, if_pos hi1, if_pos c, if_pos (by omega), if_pos (by omega), wrap_in (x + 1) (by omega) (by omega), wrap_in (e - 1) (by omega) (by omega)]
      by_cases c2 : rd l x = 10
      · have : x = e - 1 := by
          by_cases c3 : x < e - 1
          · exact absurd c2 (hf x hpx c3)
          · omega
        rw [if_pos c2, if_pos this]; exact ih
      · rw [if_neg c2]; exact ih
    · exact ends_l1 l E hl i hi0 hi1 hE p e hp he hel hf hlast K cont 0 (k + 1) x (by omega) hpx hx (by omega)
termination_by d => d
theorem ends_l0 (l E : List Int) (hl : l.length ≤ 300) (hE : E.length ≤ 1000) : ∀ (d k : Nat) (i p : Nat), i + d = E.length → E.drop i = eL (p : Int) (l.drop p) → p ≤ l.length → (0 < p ∨ i = 0) → (l.length - p) + 5 * d + 5 ≤ k →
    exegetelaw04_LinesEnds.l0 k l E (p : Int) (i : Int) = some true
  | d, 0, _, _, _, _, _, _, h => by omega
  | 0, k + 1, i, p, h, hd, hp, hpi, hk => by
    simp only [exegetelaw04_LinesEnds.l0]
    rw [if_neg (by omega)]
  | d + 1, k + 1, i, p, h, hd, hp, hpi, hk => by
    have hx := drop_rd E (i : Int) (by omega) (by omega)
    rw [Int.toNat_natCast] at hx
    have hne : l.drop p ≠ [] := by
      intro e
      rw [e] at hd
      rw [hd] at hx
      simp [eL] at hx
    obtain ⟨m, h1, h2, h3, h4, h5⟩ := eL_head (l.drop p) (p : Int) hne
    rw [List.length_drop] at h2 h5
    rw [hd, h3] at hx
    obtain ⟨hx1, hx2⟩ := List.cons.inj hx
    rw [List.drop_drop] at hx2
    have he : rd E (i : Int) = ((p + m : Nat) : Int) := by omega
    obtain ⟨k, rfl⟩ : ∃ n, k = n + 1 := ⟨k - 1, by omega⟩
    simp only [exegetelaw04_LinesEnds.l0, exegetelaw04_LinesEnds.j3]
    rw [he, if_pos (by omega), if_pos (by omega), if_neg (by omega), decide_eq_false (by omega)]
    have goal : exegetelaw04_LinesEnds.l1 k l E (i : Int) (p : Int) = some true := by
      refine ends_l1 l E hl (i : Int) (by omega) (by omega) hE (p : Int) ((p + m : Nat) : Int) (by omega) he (by omega) ?_ ?_ ((l.length - (p + m)) + 5 * d + 5) ?_ m k (p : Int) (by omega) (Int.le_refl _) (by omega) (by omega)
      · intro q hq1 hq2
        have := h4 (q.toNat - p) (by omega)
        rw [rd_drop, show ((p + (q.toNat - p) : Nat) : Int) = q by omega] at this
        exact this
      · intro hi
        rcases h5 with h5 | h5
        · exfalso
          have : E.drop (i + 1) = [] := by
            rw [← hx2, List.drop_eq_nil_of_le (by omega)]; rfl
          have := List.drop_eq_nil_iff.mp this
          omega
        · rw [rd_drop, show ((p + (m - 1) : Nat) : Int) = ((p + m : Nat) : Int) - 1 by omega] at h5
          exact ⟨by omega, by omega, h5⟩
      · intro k' hk'
        have e1 : ((i : Int) + 1) = ((i + 1 : Nat) : Int) := by omega
        rw [e1]
        refine ends_l0 l E hl hE d k' (i + 1) (p + m) (by omega) ?_ (by omega) (.inl (by omega)) (by omega)
        rw [← hx2]; rfl
    by_cases ci : (i : Int) > 0
    · rw [if_pos ci, if_neg (by omega), if_neg (by decide)]
      exact goal
    · rw [if_neg ci, if_neg (by decide)]
      exact goal
termination_by d => d
theorem eL_last : ∀ (s : List Int) (p : Int), s ≠ [] → (eL p s).getLast? = some (p + (s.length : Int))
  | [], _, h => absurd rfl h
  | [c], p, _ => by simp [eL]
  | c :: d :: t, p, _ => by
    have ih := eL_last (d :: t) (p + 1) (by simp)
    have e : p + 1 + ((d :: t).length : Int) = p + ((c :: d :: t).length : Int) := by rw [List.length_cons (a := c)]; omega
    rw [e] at ih
    rw [eL]
    split
    · rw [List.getLast?_cons, ih]; rfl
    · exact ih
theorem LinesEnds : exegetelaw04_LinesEnds.Pure := by
  intro l hm hm1 hw
  refine ⟨3000, ?_⟩
  unfold exegetelaw04_LinesEnds.f
  rw [awake_f 3000 (by omega)]
  simp only [Option.bind_some, if_true]
  by_cases c1 : (l.length : Int) > 300
  · rw [decide_eq_true c1]; simp [exegetelaw04_LinesEnds.j0]
  · rw [decide_eq_false c1]
    simp only [exegetelaw04_LinesEnds.j0, Bool.false_eq_true, if_false]
    rw [ends_f l (by omega), endsOf_eL]
    simp only [Option.bind_some]
    by_cases hn : l = []
    · subst hn
      simp [eL, exegetelaw04_LinesEnds.j1, exegetelaw04_LinesEnds.l0, exegetelaw04_LinesEnds.j3, exegetelaw04_LinesEnds.l1, rd, wrap64]
    · rw [if_neg hn, List.append_nil]
      have hlen := eL_length 0 l
      have hla := eL_last l 0 hn
      have hne : eL 0 l ≠ [] := fun h => by rw [h] at hla; cases hla
      have hpos : 0 < (eL 0 l).length := List.length_pos_iff.mpr hne
      have hrd : rd (eL 0 l) (((eL 0 l).length : Int) - 1) = (l.length : Int) := by
        rw [List.getLast?_eq_getElem?] at hla
        have e : (((eL 0 l).length : Int) - 1).toNat = (eL 0 l).length - 1 := by omega
        simp only [rd]
        rw [e, List.getD_eq_getElem?_getD, hla]; simp
      rw [if_neg (by omega), wrap_in _ (by omega) (by omega), if_pos (by omega), if_pos (by omega), hrd]
      simp only [exegetelaw04_LinesEnds.j1, bne_self_eq_false, Bool.false_eq_true, if_false]
      exact ends_l0 l (eL 0 l) (by omega) (by omega) (eL 0 l).length 2998 0 0 (by omega) rfl (by omega) (.inr rfl) (by omega)
end Go.Proofs.YtahabdogohdjeaaDoor.Pure
