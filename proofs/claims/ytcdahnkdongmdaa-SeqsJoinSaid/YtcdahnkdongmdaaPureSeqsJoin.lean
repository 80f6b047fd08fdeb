/- Of the law SeqsJoin: for all it takes it tells true. -/
import Derived.Test.YtcdahnkdongmdaaAllx11
import Derived.Test.YtcdahnkdongmdaaNSeqsE
namespace Go.Proofs.Ytcdahnkdongmdaa.Pure
set_option linter.unusedVariables false
set_option linter.unusedSimpArgs false
set_option linter.unnecessarySimpa false
open Go.RowKit Go.Proofs.Ytcdahnkdongmdaa.All Go.Proofs.YtcdahnkdongmdaaW.PrintWords Go.Proofs.YtcdahnkdongmdaaW.PrintLast
open Own
theorem SeqsJoin : exegetelaw03_SeqsJoin.Pure := by
  intro l m b a hm hw hl2 hw2 hm1 hm2 hw1 ha
  have hb := Bytes.of_wf hw1
  refine ⟨3000000, ?_⟩
  unfold exegetelaw03_SeqsJoin.f
  rw [awake_f _ (by omega), Option.bind_some, if_pos rfl]
  by_cases c1 : (l.length : Int) > 20
  · rw [if_pos c1]; simp only [exegetelaw03_SeqsJoin.j0, if_true]
  rw [if_neg c1]
  by_cases c0 : (m.length : Int) > 20
  · rw [if_pos c0]; simp only [exegetelaw03_SeqsJoin.j0, if_true]
  rw [if_neg c0]
  by_cases c2 : (b.length : Int) > 100
  · rw [decide_eq_true c2]; simp only [exegetelaw03_SeqsJoin.j0, if_true]
  rw [decide_eq_false c2]
  simp only [exegetelaw03_SeqsJoin.j0, Bool.false_eq_true, if_false]
  have hlen : (eitherB l m).length ≤ 2 * (l.length + m.length) + 2 := by
    have := pickB_length (eitherF l m) (l ++ m); rw [List.length_append] at this; exact this
  have ee : ranges_Either.f l m = some (eitherB l m) := by unfold ranges_Either.f; rw [if_pos ⟨by omega, by omega⟩]
  rw [of_f l (by omega) _ (by omega), Option.bind_some, setM_f l (by omega) b a _ (by omega), Option.bind_some, of_f m (by omega) _ (by omega), Option.bind_some, setM_f m (by omega) b a _ (by omega), Option.bind_some, ee, Option.bind_some, of_f (eitherB l m) (by omega) _ (by omega), Option.bind_some, setM_f _ (by omega) b a _ (by omega), Option.bind_some, setM_next l b hb a, setM_next m b hb a, setM_next (eitherB l m) b hb a]
  have hn : 0 ≤ (nextOf b a).1 → 0 < (nextOf b a).2 ∧ hasB (eitherB l m) (nextOf b a).1 = (hasB l (nextOf b a).1 || hasB m (nextOf b a).1) := by
    intro h0
    by_cases c : a < 0 ∨ (b.length : Int) ≤ a
    · rw [next_out b a c] at h0; simp at h0
    · rw [next_in b a (by omega) (by omega)] at h0 ⊢
      rcases next_cases _ (hb.drop a.toNat) with ⟨r, hr, hp, e⟩ | ⟨_, e⟩
      · rw [e]
        have h1 := (All.mayB_iff r).mp hr
        have h2 := sz_range r
        refine ⟨by show 0 < szOf r; omega, ?_⟩
        exact (either_upto l m).at (by show 0 ≤ r; omega) (by show r < 1114112; omega)
      · rw [e] at h0; simp at h0
  generalize (nextOf b a).1 = r at *
  generalize (nextOf b a).2 = n at *
  by_cases h0 : 0 ≤ r
  · obtain ⟨h1, h2⟩ := hn h0
    rw [h2]
    cases hasB l r <;> cases hasB m r
    · simp
    · simp [h0]
    · simp [h0, h1]
    · simp [h0, h1]
  · simp [h0]
end Go.Proofs.Ytcdahnkdongmdaa.Pure
