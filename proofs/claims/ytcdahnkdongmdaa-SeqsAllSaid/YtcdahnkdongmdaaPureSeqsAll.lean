/- Of the law SeqsAll: for all it takes it tells true. -/
import Derived.Test.YtcdahnkdongmdaaAllx14
import Derived.Test.YtcdahnkdongmdaaNSeqsE
namespace Go.Proofs.Ytcdahnkdongmdaa.Pure
set_option linter.unusedVariables false
set_option linter.unusedSimpArgs false
set_option linter.unnecessarySimpa false
open Go.RowKit Go.Proofs.Ytcdahnkdongmdaa.All Go.Proofs.YtcdahnkdongmdaaW.PrintWords Go.Proofs.YtcdahnkdongmdaaW.PrintLast
open Own
theorem pieces_all : ((piecesOf [⟨0, 1114111⟩]).map oneB).length = 9 := by
  have e : pickB (hasB [(⟨0, 1114111⟩ : Rg)]) [⟨0, 1114111⟩] = [⟨0, 1114111⟩] := (norm_upto _).ext (G := hasB [(⟨0, 1114111⟩ : Rg)]) ⟨by simp [Canon], by simp, fun n => by
    by_cases h : hasB [(⟨0, 1114111⟩ : Rg)] n = true
    · rw [h]
      rw [hasB_cons, hasB_nil, Bool.or_false, inR_iff] at h
      have h' : 0 ≤ n ∧ n ≤ 1114111 := h
      rw [decide_eq_true (show 0 ≤ n by omega), decide_eq_true (show n < 1114112 by omega)]; rfl
    · rw [Bool.eq_false_iff.mpr h, Bool.and_false]⟩ fun _ _ _ => rfl
  rw [List.length_map]
  unfold piecesOf
  rw [e]
  decide +kernel
theorem SeqsAll : exegetelaw03_SeqsAll.Pure := by
  intro b a hm1 hm2 hw1 ha
  have hb := Bytes.of_wf hw1
  refine ⟨3000000, ?_⟩
  unfold exegetelaw03_SeqsAll.f
  rw [awake_f _ (by omega), Option.bind_some, if_pos rfl]
  by_cases c2 : (b.length : Int) > 100
  · rw [decide_eq_true c2]; simp only [exegetelaw03_SeqsAll.j0, if_true]
  rw [decide_eq_false c2]
  simp only [exegetelaw03_SeqsAll.j0, Bool.false_eq_true, if_false]
  rw [of_f _ (by simp) _ (by omega), Option.bind_some, next_f b a hb hm1, Option.bind_some, pieces_all]
  have hs := setM_next [⟨0, 1114111⟩] b hb a
  by_cases c3 : (nextOf b a).1 < 0
  · rw [if_pos c3, if_pos (by rfl), setM_f _ (by simp) b a _ (by omega), Option.bind_some, hs, if_neg (by omega)]; rfl
  · have hin : hasB [(⟨0, 1114111⟩ : Rg)] (nextOf b a).1 = true := by
      by_cases c : a < 0 ∨ (b.length : Int) ≤ a
      · rw [next_out b a c] at c3; simp at c3
      · rw [next_in b a (by omega) (by omega)] at c3 ⊢
        rcases next_cases _ (hb.drop a.toNat) with ⟨r, hr, hp, e⟩ | ⟨_, e⟩
        · rw [e]
          have h1 := (All.mayB_iff r).mp hr
          exact mem_hasB List.mem_cons_self (by show 0 ≤ r; omega) (by show r ≤ 1114111; omega)
        · rw [e] at c3; simp at c3
    rw [if_neg c3, if_pos (by rfl), setM_f _ (by simp) b a _ (by omega), Option.bind_some, hs, if_pos ⟨by omega, hin⟩, beq_self_eq_true]
end Go.Proofs.Ytcdahnkdongmdaa.Pure
