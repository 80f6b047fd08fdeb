/- Of the law SeqsMatch: for all it takes it tells true. -/
import Derived.Test.YtcdahnkdongmdaaAllx15
import Derived.Test.YtcdahnkdongmdaaNSeqsE
namespace Go.Proofs.Ytcdahnkdongmdaa.Pure
set_option linter.unusedVariables false
set_option linter.unusedSimpArgs false
set_option linter.unnecessarySimpa false
open Go.RowKit Go.Proofs.Ytcdahnkdongmdaa.All Go.Proofs.YtcdahnkdongmdaaW.PrintWords Go.Proofs.YtcdahnkdongmdaaW.PrintLast
open Own
theorem SeqsMatch : exegetelaw03_SeqsMatch.Pure := by
  intro l b a hm hw hm1 hm2 hw1 ha
  have hb := Bytes.of_wf hw1
  refine ⟨3000000, ?_⟩
  unfold exegetelaw03_SeqsMatch.f
  rw [awake_f _ (by omega), Option.bind_some, if_pos rfl]
  by_cases c1 : (l.length : Int) > 20
  · rw [if_pos c1]; simp only [exegetelaw03_SeqsMatch.j0, if_true]
  rw [if_neg c1]
  by_cases c2 : (b.length : Int) > 100
  · rw [decide_eq_true c2]; simp only [exegetelaw03_SeqsMatch.j0, if_true]
  rw [decide_eq_false c2]
  simp only [exegetelaw03_SeqsMatch.j0, Bool.false_eq_true, if_false]
  rw [next_f b a hb hm1, Option.bind_some]
  have hs := setM_next l b hb a
  by_cases c3 : (nextOf b a).1 < 0
  · rw [if_pos c3]
    simp only [exegetelaw03_SeqsMatch.j1, if_true]
    rw [of_f l (by omega) _ (by omega), Option.bind_some, setM_f l (by omega) b a _ (by omega), Option.bind_some, hs, if_neg (by omega)]; rfl
  · rw [if_neg c3]
    unfold ranges_Has.f
    rw [Option.bind_some]
    by_cases c4 : hasB l (nextOf b a).1 = true
    · rw [c4]
      simp only [exegetelaw03_SeqsMatch.j1, Bool.not_true, Bool.false_eq_true, if_false]
      rw [of_f l (by omega) _ (by omega), Option.bind_some, setM_f l (by omega) b a _ (by omega), Option.bind_some, hs, if_pos ⟨by omega, c4⟩, beq_self_eq_true]
    · rw [Bool.eq_false_iff.mpr c4]
      simp only [exegetelaw03_SeqsMatch.j1, Bool.not_false, if_true]
      rw [of_f l (by omega) _ (by omega), Option.bind_some, setM_f l (by omega) b a _ (by omega), Option.bind_some, hs, if_neg (fun h => c4 h.2)]; rfl
end Go.Proofs.Ytcdahnkdongmdaa.Pure
