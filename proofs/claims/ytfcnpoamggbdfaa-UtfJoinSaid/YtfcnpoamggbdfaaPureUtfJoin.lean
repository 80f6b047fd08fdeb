/- Of the law UtfJoin: for every list of numbers it tells true. -/
import Derived.Test.YtfcnpoamggbdfaaAllx11
import Derived.Test.YtfcnpoamggbdfaaNUtfC
namespace Go.Proofs.Ytfcnpoamggbdfaa.Pure
open Go.RowKit Go.Proofs.Ytfcnpoamggbdfaa.All Go.Proofs.YtfcnpoamggbdfaaW.PrintWords Go.Proofs.YtfcnpoamggbdfaaW.PrintLast
theorem flat_bytes : ∀ (rs : List Int), (∀ r ∈ rs, mayB r = true) → Bytes (rs.flatMap putOf)
  | [], _ => Bytes.nil
  | r :: rs, h => by
    rw [List.flatMap_cons]
    exact (put_bytes (h r (by simp))).append (flat_bytes rs fun q hq => h q (List.mem_cons_of_mem _ hq))
theorem flat_units : ∀ (rs : List Int), (∀ r ∈ rs, mayB r = true) → unitsOf (rs.flatMap putOf) = (rs.length : Int)
  | [], _ => rfl
  | r :: rs, h => by
    have hb := flat_bytes rs fun q hq => h q (List.mem_cons_of_mem _ hq)
    rw [List.flatMap_cons, units_put r (h r (by simp)) _ hb, flat_units rs fun q hq => h q (List.mem_cons_of_mem _ hq)]
    simp
    omega
theorem join_l0 (l : List Int) (hl : l.length ≤ 60) : ∀ (d k : Nat) (rs : List Int) (i : Int), 0 ≤ i → (∀ r ∈ rs, mayB r = true) → (rs.length : Int) ≤ i → ((rs.flatMap putOf).length : Int) ≤ 4 * i → (l.length : Int) - i ≤ d → d + 300 ≤ k → i ≤ 60 →
    exegetelaw01_UtfJoin.l0 k l (rs.flatMap putOf) (rs.length : Int) i = some true
  | d, k, rs, i, h0, hr, hn, hb, hd, hk, hi => by
    obtain ⟨k, rfl⟩ : ∃ m, k = m + 1 := ⟨k - 1, by omega⟩
    simp only [exegetelaw01_UtfJoin.l0]
    by_cases c1 : i < (l.length : Int)
    · obtain ⟨d, rfl⟩ : ∃ m, d = m + 1 := ⟨d - 1, by omega⟩
      rw [if_pos c1, if_pos h0, put_f]
      by_cases c2 : mayB (rd l i) = true
      · rw [if_pos c2]
        have hz := sz_range (rd l i)
        have hlen := put_len (rd l i)
        simp only [Option.bind_some, if_true]
        rw [if_pos (by omega), wrap_in _ (by omega) (by omega), wrap_in _ (by omega) (by omega)]
        have e : rs.flatMap putOf ++ putOf (rd l i) = (rs ++ [rd l i]).flatMap putOf := by simp
        have e2 : (rs.length : Int) + 1 = ((rs ++ [rd l i]).length : Int) := by simp
        rw [e, e2]
        refine join_l0 l hl d k (rs ++ [rd l i]) (i + 1) (by omega) (fun r h => ?_) (by simp; omega) ?_ (by omega) (by omega) (by omega)
        · rcases List.mem_append.mp h with h | h
          · exact hr r h
          · rw [List.mem_singleton.mp h]; exact c2
        · rw [← e, List.length_append]; omega
      · rw [if_neg c2]
        simp only [Option.bind_some, Bool.false_eq_true, if_false, List.length_nil, List.append_nil]
        rw [if_pos (by omega), wrap_in _ (by omega) (by omega)]
        exact join_l0 l hl d k rs (i + 1) (by omega) hr (by omega) (by omega) (by omega) (by omega) (by omega)
    · rw [if_neg c1, units_f _ (flat_bytes rs hr) (by omega) k (by omega), flat_units rs hr]
      simp
termination_by d => d
theorem UtfJoin : exegetelaw01_UtfJoin.Pure := by
  intro l _ _ _
  refine ⟨500, ?_⟩
  unfold exegetelaw01_UtfJoin.f
  rw [awake_f 500 (by omega)]
  simp only [Option.bind_some, if_true]
  by_cases c1 : (l.length : Int) > 60
  · rw [decide_eq_true c1]; simp [exegetelaw01_UtfJoin.j0]
  · rw [decide_eq_false c1]
    simp only [exegetelaw01_UtfJoin.j0, Bool.false_eq_true, if_false]
    exact join_l0 l (by omega) 60 499 [] 0 (by omega) (fun r h => by cases h) (by simp) (by simp) (by omega) (by omega) (by omega)
end Go.Proofs.Ytfcnpoamggbdfaa.Pure
