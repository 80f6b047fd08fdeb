/- Of the law UtfUnits: for every list of bytes and every number it tells true. -/
import Derived.Test.YtfcnpoamggbdfaaAllx9
import Derived.Test.YtfcnpoamggbdfaaNUtfC
namespace Go.Proofs.Ytfcnpoamggbdfaa.Pure
open Go.RowKit Go.Proofs.Ytfcnpoamggbdfaa.All Go.Proofs.YtfcnpoamggbdfaaW.PrintWords Go.Proofs.YtfcnpoamggbdfaaW.PrintLast
theorem units_end (s : List Int) (hs : Bytes s) (hl : s.length ≤ 300) (many : Int) (k : Nat) (i j : Int) (h0 : 0 ≤ i) (hc : Cut s i.toNat) (hk : 310 ≤ k) : exegetelaw01_UtfUnits.j2 k s many i j false = some true := by
  obtain ⟨k, rfl⟩ : ∃ m, k = m + 1 := ⟨k - 1, by omega⟩
  have hle := hc.le hs
  have hu := units_cut hs hc
  have hb := units_bounds _ s (Nat.le_refl _) hs
  have hb1 := units_bounds _ (s.take i.toNat) (Nat.le_refl _) (hs.take _)
  have hb2 := units_bounds _ (s.drop i.toNat) (Nat.le_refl _) (hs.drop _)
  have hl1 : (s.take i.toNat).length ≤ 300 := by rw [List.length_take]; omega
  have hl2 : (s.drop i.toNat).length ≤ 300 := by rw [List.length_drop]; omega
  simp only [exegetelaw01_UtfUnits.j2, Bool.false_eq_true, if_false]
  rw [if_neg (by omega), units_f s hs (by omega) k (by omega)]
  simp only [Option.bind_some]
  rw [if_pos h0, if_pos (by omega), units_f _ (hs.take _) (by omega) k (by omega)]
  simp only [Option.bind_some]
  rw [units_f _ (hs.drop _) (by omega) k (by omega)]
  simp only [Option.bind_some]
  rw [wrap_in _ (by omega) (by omega), wrap_in _ (by omega) (by omega), if_pos hu, if_pos (by omega), decide_eq_true (by omega)]
theorem units_l (s : List Int) (hs : Bytes s) (hl : s.length ≤ 300) (many : Int) : ∀ (d k : Nat) (i j : Int), 0 ≤ i → 0 ≤ j → j ≤ i → Cut s i.toNat → s.length ≤ d + i.toNat → 2 * d + 320 ≤ k →
    exegetelaw01_UtfUnits.l0 k s many i j = some true
  | d, k, i, j, h0, hj, hji, hc, hd, hk => by
    obtain ⟨k, rfl⟩ : ∃ m, k = m + 1 := ⟨k - 1, by omega⟩
    have hle := hc.le hs
    simp only [exegetelaw01_UtfUnits.l0]
    by_cases c1 : j < many
    · rw [if_pos c1]
      by_cases c2 : i < (s.length : Int)
      · rw [decide_eq_true c2]
        obtain ⟨k, rfl⟩ : ∃ m, k = m + 1 := ⟨k - 1, by omega⟩
        obtain ⟨d, rfl⟩ : ∃ m, d = m + 1 := ⟨d - 1, by omega⟩
        have hne : s.drop i.toNat ≠ [] := fun e => by have := List.drop_eq_nil_iff.mp e; omega
        have hn := next_len _ (hs.drop i.toNat) hne
        have hc2 := hc.snoc hs hne
        simp only [exegetelaw01_UtfUnits.j2, if_true]
        rw [next_f s i hs (by unfold maxLen; omega), next_in s i h0 c2]
        simp only [Option.bind_some]
        rw [List.length_drop] at hn
        rw [if_neg (by omega), wrap_in _ (by omega) (by omega), wrap_in _ (by omega) (by omega)]
        have e : (i + (nextS (s.drop i.toNat)).2).toNat = i.toNat + (nextS (s.drop i.toNat)).2.toNat := by omega
        exact units_l s hs hl many d k _ _ (by omega) (by omega) (by omega) (by rw [e]; exact hc2) (by omega) (by omega)
      · rw [decide_eq_false c2]
        exact units_end s hs hl many k i j h0 hc (by omega)
    · rw [if_neg c1]
      exact units_end s hs hl many k i j h0 hc (by omega)
termination_by d => d
theorem UtfUnits : exegetelaw01_UtfUnits.Pure := by
  intro l a hl _ hb _
  have hs := Bytes.of_wf hb
  refine ⟨2000, ?_⟩
  have j : exegetelaw01_UtfUnits.j0 2000 l a true true = some true := by simp [exegetelaw01_UtfUnits.j0]
  unfold exegetelaw01_UtfUnits.f
  rw [awake_f 2000 (by omega)]
  simp only [Option.bind_some, if_true]
  by_cases c1 : (l.length : Int) > 300
  · rw [if_pos c1]; exact j
  · rw [if_neg c1]
    by_cases c2 : a < 0
    · rw [decide_eq_true c2]; exact j
    · rw [decide_eq_false c2]
      simp only [exegetelaw01_UtfUnits.j0, Bool.false_eq_true, if_false]
      exact units_l l hs (by omega) a 300 1999 0 0 (by omega) (by omega) (by omega) (Cut.zero _) (by omega) (by omega)
end Go.Proofs.Ytfcnpoamggbdfaa.Pure
