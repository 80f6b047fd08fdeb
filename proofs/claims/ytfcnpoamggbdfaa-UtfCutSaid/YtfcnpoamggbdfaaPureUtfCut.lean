/- Of the law UtfCut: for every two numbers it tells true. -/
import Derived.Test.YtfcnpoamggbdfaaAllx10
import Derived.Test.YtfcnpoamggbdfaaNUtfC
namespace Go.Proofs.Ytfcnpoamggbdfaa.Pure
open Go.RowKit Go.Proofs.Ytfcnpoamggbdfaa.All Go.Proofs.YtfcnpoamggbdfaaW.PrintWords Go.Proofs.YtfcnpoamggbdfaaW.PrintLast
theorem cut_next (r : Int) (hr : mayB r = true) (m : Nat) (hm : m < (putOf r).length) : nextS ((putOf r).take m) = (-1, 1) := by
  refine next_bad ((put_bytes hr).take m) fun q hq hp => ?_
  have h1 := put_prefix hq hr (hp.trans (List.take_prefix m _)) (List.prefix_refl _)
  subst h1
  have := hp.length_le
  rw [List.length_take] at this
  omega
theorem cut_units (r : Int) (hr : mayB r = true) (m : Nat) (h1 : 1 ≤ m) (hm : m < (putOf r).length) : unitsOf ((putOf r).take m) = (m : Int) := by
  obtain ⟨a, t, e, _⟩ := put_head hr
  have ht := put_tail hr a t e
  have hb := put_bytes hr
  have hn := cut_next r hr m hm
  rw [e] at hn hm hb ⊢
  obtain ⟨m, rfl⟩ : ∃ n, m = n + 1 := ⟨m - 1, by omega⟩
  simp only [List.take_succ_cons] at hn ⊢
  have hbt : Bytes (a :: t.take m) := fun x hx => hb x (by
    rcases List.mem_cons.mp hx with h | h
    · rw [h]; simp
    · exact List.mem_cons_of_mem _ (List.mem_of_mem_take h))
  rw [units_step _ hbt (by simp), hn]
  simp only [Int.toNat_one, List.drop_succ_cons, List.drop_zero]
  rw [units_conts (t.take m) (fun x hx => hbt x (List.mem_cons_of_mem _ hx)) (fun x hx => ht x (List.mem_of_mem_take hx)), List.length_take]
  simp at hm
  omega
theorem UtfCut : exegetelaw01_UtfCut.Pure := by
  intro r m _ _
  refine ⟨20, ?_⟩
  have j : ∀ l, exegetelaw01_UtfCut.j0 20 m true l true = some true := fun l => by simp [exegetelaw01_UtfCut.j0]
  unfold exegetelaw01_UtfCut.f
  rw [awake_f 20 (by omega), put_f]
  by_cases c1 : mayB r = true
  · rw [if_pos c1]
    simp only [Option.bind_some, if_true]
    by_cases c2 : m < 1
    · rw [if_pos c2]; exact j _
    · rw [if_neg c2]
      by_cases c3 : m ≥ ((putOf r).length : Int)
      · rw [decide_eq_true c3]; exact j _
      · rw [decide_eq_false c3]
        have hz := sz_range r
        have hlen := put_len r
        have hb := (put_bytes c1).take m.toNat
        have hl : ((putOf r).take m.toNat).length = m.toNat := by rw [List.length_take]; omega
        simp only [exegetelaw01_UtfCut.j0, Bool.false_eq_true, if_false]
        rw [if_pos (by omega), if_pos (by omega), next_f _ 0 hb (by rw [hl]; unfold maxLen; omega), next_in _ 0 (by omega) (by rw [hl]; omega)]
        simp only [Int.toNat_zero, List.drop_zero, Option.bind_some]
        rw [cut_next r c1 m.toNat (by omega)]
        simp only
        rw [if_pos trivial, if_pos trivial, units_f _ hb (by omega) _ (by omega), cut_units r c1 m.toNat (by omega) (by omega)]
        simp
        omega
  · rw [if_neg c1]
    simp only [Option.bind_some, if_true, Bool.false_eq_true, if_false]
    exact j _
end Go.Proofs.Ytfcnpoamggbdfaa.Pure
