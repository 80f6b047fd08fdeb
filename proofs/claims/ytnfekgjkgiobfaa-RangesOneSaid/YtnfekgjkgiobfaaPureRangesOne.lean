/- Of the law RangesOne: for every list of ranges and all numbers it tells true. -/
import Derived.Test.YtnfekgjkgiobfaaAllx10
import Derived.Test.YtnfekgjkgiobfaaNRangesL
namespace Go.Proofs.Ytnfekgjkgiobfaa.Pure
set_option linter.unusedVariables false
set_option linter.unusedSimpArgs false
set_option linter.unnecessarySimpa false
open Go.RowKit Go.Proofs.Ytnfekgjkgiobfaa.All Go.Proofs.YtnfekgjkgiobfaaW.PrintWords Go.Proofs.YtnfekgjkgiobfaaW.PrintLast
open Own
theorem RangesOne : exegetelaw02_RangesOne.Pure := by
  intro l n m hl hw hn hm
  refine ⟨6000000, ?_⟩
  unfold exegetelaw02_RangesOne.f
  rw [awake_f _ (by omega), Option.bind_some, if_pos rfl]
  by_cases c1 : (l.length : Int) > 60
  · rw [if_pos c1]; simp only [exegetelaw02_RangesOne.j0, if_true]
  rw [if_neg c1]
  by_cases c2 : n < 0
  · rw [if_pos c2]; simp only [exegetelaw02_RangesOne.j0, if_true]
  rw [if_neg c2]
  by_cases c3 : n > 1114111
  · rw [if_pos c3]; simp only [exegetelaw02_RangesOne.j0, if_true]
  rw [if_neg c3]
  by_cases c4 : m = n
  · rw [if_pos c4]; simp only [exegetelaw02_RangesOne.j0, if_true]
  rw [if_neg c4]
  by_cases c5 : m < 0
  · rw [if_pos c5]; simp only [exegetelaw02_RangesOne.j0, if_true]
  rw [if_neg c5]
  by_cases c6 : m > 1114111
  · rw [decide_eq_true c6]; simp only [exegetelaw02_RangesOne.j0, if_true]
  rw [decide_eq_false c6]
  obtain ⟨N, hN⟩ := theN
  have lE := either_len l [⟨n, n⟩]
  have lL := less_len l [⟨n, n⟩]
  have o1 := one_cnt n (by omega) N (by omega)
  have e1 : cntF (eitherF l [⟨n, n⟩]) N = cntF (lessF l [⟨n, n⟩]) N + cntF (hasB [⟨n, n⟩]) N := cntF_or N fun x _ _ => by
    unfold lessF eitherF
    cases hasB l x <;> cases hasB [(⟨n, n⟩ : Rg)] x <;> simp
  have b1 := cntF_bound (eitherF l [⟨n, n⟩]) N
  have b2 := cntF_bound (lessF l [⟨n, n⟩]) N
  have uE := either_upto l [⟨n, n⟩]
  have uL := less_upto l [⟨n, n⟩]
  have hE : hasB (eitherB l [⟨n, n⟩]) n = true := by
    rw [uE.at (by omega) (by omega)]; unfold eitherF; rw [one_has, decide_eq_true rfl, Bool.or_true]
  have hL : hasB (lessB l [⟨n, n⟩]) n = false := by
    rw [uL.at (by omega) (by omega)]; unfold lessF; rw [one_has, decide_eq_true rfl]; simp
  have hE2 : hasB (eitherB l [⟨n, n⟩]) m = hasB l m := by
    rw [uE.at (by omega) (by omega)]; unfold eitherF; rw [one_has, decide_eq_false c4, Bool.or_false]
  have hL2 : hasB (lessB l [⟨n, n⟩]) m = hasB l m := by
    rw [uL.at (by omega) (by omega)]; unfold lessF; rw [one_has, decide_eq_false c4]; simp
  have hwas : (cntF (eitherF l [⟨n, n⟩]) N == cntF (hasB l) N) = hasB l n := by
    cases hx : hasB l n with
    | true =>
      refine beq_iff_eq.mpr (cntF_congr N fun x _ _ => ?_)
      unfold eitherF
      rw [one_has]
      by_cases c : x = n
      · rw [c, hx, Bool.true_or]
      · rw [decide_eq_false c, Bool.or_false]
    | false =>
      have e2 : cntF (eitherF l [⟨n, n⟩]) N = cntF (hasB l) N + cntF (hasB [⟨n, n⟩]) N := cntF_or N fun x _ _ => by
        unfold eitherF
        rw [one_has]
        refine ⟨fun h1 h2 => ?_, rfl⟩
        rw [of_decide_eq_true h2, hx] at h1; cases h1
      exact beq_eq_false_iff_ne.mpr (by omega)
  simp only [exegetelaw02_RangesOne.j0, Bool.false_eq_true, if_false, Option.bind_some]
  rw [either_f _ _ (by omega) (by simp), Option.bind_some, less_f _ _ (by omega) (by simp), Option.bind_some, has_f, Option.bind_some]
  have sE := fun k hk => (size_cnt k (eitherB l [⟨n, n⟩]) (by rw [List.length_singleton] at lE; omega) hk N hN).trans (congrArg some (uE.cnt N hN))
  have sL := fun k hk => (size_cnt k (lessB l [⟨n, n⟩]) (by rw [List.length_singleton] at lL; omega) hk N hN).trans (congrArg some (uL.cnt N hN))
  rw [sE _ (by omega), Option.bind_some, sL _ (by omega), Option.bind_some, wr (by omega) (by omega), if_pos (by omega), has_f, Option.bind_some, hL, if_neg (by decide), has_f, Option.bind_some, hE, if_pos rfl, Option.bind_some, size_cnt _ l (by omega) (by omega) N hN, Option.bind_some, hwas, bne_self_eq_false]
  simp only [exegetelaw02_RangesOne.j1, Bool.false_eq_true, if_false]
  rw [has_f, Option.bind_some, has_f, Option.bind_some, hE2, if_pos (beq_self_eq_true _), has_f, Option.bind_some, Option.bind_some, hL2, beq_self_eq_true]
end Go.Proofs.Ytnfekgjkgiobfaa.Pure
