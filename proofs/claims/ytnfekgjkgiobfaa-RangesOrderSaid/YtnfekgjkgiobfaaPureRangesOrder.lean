/- Of the law RangesOrder: for all lists of ranges it tells true. -/
import Derived.Test.YtnfekgjkgiobfaaAllx14
import Derived.Test.YtnfekgjkgiobfaaNRangesL
namespace Go.Proofs.Ytnfekgjkgiobfaa.Pure
set_option linter.unusedVariables false
set_option linter.unusedSimpArgs false
set_option linter.unnecessarySimpa false
open Go.RowKit Go.Proofs.Ytnfekgjkgiobfaa.All Go.Proofs.YtnfekgjkgiobfaaW.PrintWords Go.Proofs.YtnfekgjkgiobfaaW.PrintLast
open Own
theorem may_same (l : List Rg) : mayB 0 l = sameB (pickB (hasB l) l) l := by
  cases h : mayB 0 l with
  | true =>
    have hc := (mayB_iff (Int.le_refl 0)).mp h
    have hu := norm_upto l
    have e : pickB (hasB l) l = l := Canon.ext hu.can hc fun n => by
      rw [hu.has n]
      cases hn : hasB l n with
      | true =>
        have h1 := hc.ge hn
        have h2 := hc.le hn
        rw [decide_eq_true h1, decide_eq_true (show n < 1114112 by omega)]; rfl
      | false => rw [Bool.and_false]
    rw [e, sameB_self]
  | false =>
    refine (sameB_ne fun e => ?_).symm
    have hu := norm_upto l
    rw [e] at hu
    have := hu.may
    rw [h] at this; cases this
theorem less_empty (l m : List Rg) : ((lessB l m).length : Int) = 0 ↔ ∀ n, 0 ≤ n → n < 1114112 → lessF l m n = false := (less_upto l m).empty
theorem norm_eq_iff (l m : List Rg) : pickB (hasB l) l = pickB (hasB m) m ↔ ∀ n, 0 ≤ n → n < 1114112 → hasB l n = hasB m n := by
  constructor
  · intro e n h0 h1
    rw [← (norm_upto l).at h0 h1, ← (norm_upto m).at h0 h1, e]
  · intro h
    exact (norm_upto l).ext (norm_upto m) h
theorem RangesOrder : exegetelaw02_RangesOrder.Pure := by
  intro l m hl hw hl2 hw2
  refine ⟨6000000, ?_⟩
  unfold exegetelaw02_RangesOrder.f
  rw [awake_f _ (by omega), Option.bind_some, if_pos rfl]
  by_cases c1 : (l.length : Int) > 60
  · rw [if_pos c1]; simp only [exegetelaw02_RangesOrder.j0, if_true]
  · rw [if_neg c1]
    by_cases c2 : (m.length : Int) > 60
    · rw [decide_eq_true c2]; simp only [exegetelaw02_RangesOrder.j0, if_true]
    · rw [decide_eq_false c2]
      have lB := both_len l m
      have lE := either_len l m
      have lL := less_len l m
      have lN := pickB_length (hasB l) l
      have uB := both_upto l m
      have uE := either_upto l m
      have uL := less_upto l m
      have uN := norm_upto l
      simp only [exegetelaw02_RangesOrder.j0, Bool.false_eq_true, if_false]
      rw [norm_f l (by omega), Option.bind_some, may_f _ _ (by omega) (uN.can.wf (Int.le_refl _)) (by omega), Option.bind_some, uN.may, if_pos rfl]
      rw [both_f l m (by omega) (by omega), Option.bind_some, may_f _ _ (by omega) (uB.can.wf (Int.le_refl _)) (by omega), Option.bind_some, uB.may, if_pos rfl]
      rw [either_f l m (by omega) (by omega), Option.bind_some, may_f _ _ (by omega) (uE.can.wf (Int.le_refl _)) (by omega), Option.bind_some, uE.may, if_pos rfl]
      rw [less_f l m (by omega) (by omega), Option.bind_some, may_f _ _ (by omega) (uL.can.wf (Int.le_refl _)) (by omega), Option.bind_some, uL.may]
      simp only [exegetelaw02_RangesOrder.j1, if_true]
      rw [may_f _ l (by omega) hw (by omega), Option.bind_some, same_f _ _ _ (by omega) (by omega), Option.bind_some, may_same, bne_self_eq_false]
      simp only [exegetelaw02_RangesOrder.j2, Bool.false_eq_true, if_false]
      rw [norm_f m (by omega), Option.bind_some, less_f l m (by omega) (by omega), Option.bind_some, less_f m l (by omega) (by omega), Option.bind_some, same_f _ _ _ (by omega) (by omega), Option.bind_some, Option.bind_some]
      by_cases e1 : ((lessB l m).length : Int) = 0
      · rw [if_pos e1]
        have f1 := (less_empty l m).mp e1
        by_cases e2 : ((lessB m l).length : Int) = 0
        · have f2 := (less_empty m l).mp e2
          rw [beq_iff_eq.mpr e2, (norm_eq_iff l m).mpr fun n h0 h1 => by
            have g1 := f1 n h0 h1
            have g2 := f2 n h0 h1
            unfold lessF at g1 g2
            revert g1 g2
            cases hasB l n <;> cases hasB m n <;> simp, sameB_self]
          rfl
        · rw [beq_eq_false_iff_ne.mpr e2, sameB_ne fun e => e2 ((less_empty m l).mpr fun n h0 h1 => by
            have g := (norm_eq_iff l m).mp e n h0 h1
            unfold lessF
            rw [g]
            cases hasB m n <;> rfl)]
          rfl
      · rw [if_neg e1, sameB_ne fun e => e1 ((less_empty l m).mpr fun n h0 h1 => by
          have g := (norm_eq_iff l m).mp e n h0 h1
          unfold lessF
          rw [g]
          cases hasB m n <;> rfl)]
        rfl
end Go.Proofs.Ytnfekgjkgiobfaa.Pure
