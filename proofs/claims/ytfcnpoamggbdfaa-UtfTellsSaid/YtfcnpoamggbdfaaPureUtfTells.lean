/- Of the law UtfTells: for every number, every list of bytes, and every place, it tells true. -/
import Derived.Test.YtfcnpoamggbdfaaAllx6
import Derived.Test.YtfcnpoamggbdfaaNUtfC
import Derived.Test.YtfcnpoamggbdfaaNUtfR
namespace Go.Proofs.Ytfcnpoamggbdfaa.Pure
open Go.RowKit Go.Proofs.Ytfcnpoamggbdfaa.All Go.Proofs.YtfcnpoamggbdfaaW.PrintWords Go.Proofs.YtfcnpoamggbdfaaW.PrintLast
theorem UtfTells : exegetelaw01_UtfTells.Pure := by
  intro r l a _ hl _ hb _
  have hs := Bytes.of_wf hb
  refine ⟨1000, ?_⟩
  unfold exegetelaw01_UtfTells.f
  rw [awake_f 1000 (by omega)]
  simp only [Option.bind_some, if_true]
  by_cases c1 : (l.length : Int) > 300
  · rw [decide_eq_true c1]; simp [exegetelaw01_UtfTells.j0]
  · rw [decide_eq_false c1]
    simp only [exegetelaw01_UtfTells.j0, Bool.false_eq_true, if_false]
    rw [put_f, rput_f, next_f l a hs hl, rnext_f l a hs (by omega) _ (by omega), rmay_f, may_f]
    by_cases c2 : mayB r = true
    · rw [if_pos c2]
      simp only [Option.bind_some, beq_self_eq_true, if_true]
      rw [units_f l hs (by omega) _ (by omega), runits_f l hs (by omega) _ (by omega)]
      simp
    · rw [if_neg c2]
      simp only [Option.bind_some, beq_self_eq_true, if_true]
      rw [units_f l hs (by omega) _ (by omega), runits_f l hs (by omega) _ (by omega)]
      simp
end Go.Proofs.Ytfcnpoamggbdfaa.Pure
