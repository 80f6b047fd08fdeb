/- Of the law UtfBack: for every number, every list of bytes, and every place, it tells true. -/
import Derived.Test.YtfcnpoamggbdfaaAllx7
import Derived.Test.YtfcnpoamggbdfaaNUtfC
namespace Go.Proofs.Ytfcnpoamggbdfaa.Pure
open Go.RowKit Go.Proofs.Ytfcnpoamggbdfaa.All Go.Proofs.YtfcnpoamggbdfaaW.PrintWords Go.Proofs.YtfcnpoamggbdfaaW.PrintLast
theorem back_j1 (l : List Int) (a : Int) (hs : Bytes l) (hl : l.length ≤ 300) (ha : -9223372036854775808 ≤ a ∧ a ≤ 9223372036854775807) (k : Nat) (hk : 1 ≤ k) : exegetelaw01_UtfBack.j1 k l a = some true := by
  obtain ⟨k, rfl⟩ : ∃ m, k = m + 1 := ⟨k - 1, by omega⟩
  simp only [exegetelaw01_UtfBack.j1]
  rw [next_f l a hs (by unfold maxLen; omega)]
  simp only [Option.bind_some]
  by_cases c : 0 ≤ a ∧ a < (l.length : Int)
  · rw [next_in l a c.1 c.2]
    have hsd := hs.drop a.toNat
    have hne : l.drop a.toNat ≠ [] := fun e => by have := List.drop_eq_nil_iff.mp e; omega
    have hn := next_len _ hsd hne
    rcases next_fst _ hsd with ⟨h1, h2⟩ | ⟨h1, h2, h3⟩
    · rw [h1, h2, if_pos (by decide), if_pos rfl, if_pos (by omega), decide_eq_true c.2, if_pos (by decide)]; rfl
    · have hm := (mayB_iff _).mp h1
      rw [if_neg (by omega), put_f, if_pos h1]
      simp only [Option.bind_some, if_true]
      rw [List.length_drop] at hn
      rw [if_pos (by omega), wrap_in _ (by omega) (by omega), if_pos (by omega), if_pos c.1, wrap_in _ (by omega) (by omega), if_pos (by omega), if_pos (by omega)]
      have e : (l.take (a + (nextS (l.drop a.toNat)).2).toNat).drop a.toNat = putOf (nextS (l.drop a.toNat)).1 := by
        have hp := List.prefix_iff_eq_take.mp h2
        rw [List.drop_take]
        conv => rhs; rw [hp]
        congr 1
        have := put_len (nextS (l.drop a.toNat)).1
        omega
      rw [e]
      simp
  · rw [next_out l a (by omega)]
    rw [if_pos (by decide), if_pos rfl]
    by_cases c2 : a ≥ 0
    · rw [if_pos c2, decide_eq_false (by omega), if_pos (by decide)]; rfl
    · rw [if_neg c2, if_pos (by decide)]; rfl
theorem UtfBack : exegetelaw01_UtfBack.Pure := by
  intro r l a _ hl _ hb ha
  have hs := Bytes.of_wf hb
  have ha' : -9223372036854775808 ≤ a ∧ a ≤ 9223372036854775807 := by
    simpa [Lit.wf, IntKind.min, IntKind.max, IntKind.signed, IntKind.bits] using ha
  refine ⟨10, ?_⟩
  unfold exegetelaw01_UtfBack.f
  rw [awake_f 10 (by omega)]
  simp only [Option.bind_some, if_true]
  by_cases c1 : (l.length : Int) > 300
  · rw [decide_eq_true c1]; simp [exegetelaw01_UtfBack.j0]
  · rw [decide_eq_false c1]
    have hj := back_j1 l a hs (by omega) ha' 9 (by omega)
    simp only [exegetelaw01_UtfBack.j0, Bool.false_eq_true, if_false]
    rw [put_f, may_f]
    by_cases c2 : mayB r = true
    · rw [if_pos c2]
      have hp := put_bytes c2
      have hz := sz_range r
      have hlen := put_len r
      simp only [Option.bind_some, c2, bne_self_eq_false, Bool.false_eq_true, if_false, if_true, List.length_nil, List.nil_append]
      rw [if_pos (by omega), if_pos (by omega), next_f _ 0 (hp.append hs) (by rw [List.length_append]; unfold maxLen; omega), next_in _ 0 (by omega) (by rw [List.length_append]; omega)]
      simp only [Int.toNat_zero, List.drop_zero, Option.bind_some]
      rw [next_append r c2 l hs]
      simp only
      rw [if_pos trivial, if_pos (by omega), if_neg (by omega), if_neg (by omega)]
      exact hj
    · have c3 : mayB r = false := by simpa using c2
      rw [if_neg c2]
      simp only [Option.bind_some, c3, bne_self_eq_false, Bool.false_eq_true, if_false]
      exact hj
end Go.Proofs.Ytfcnpoamggbdfaa.Pure
