/- Texts of the claim TermTells, merged, without what it does not use. -/
import Derived.Test.YtcdahnkdongmdaaZTermTellsX20
import Derived.Test.YtcdahnkdongmdaaZTermTellsX21
import Derived.Test.YtcdahnkdongmdaaZTermTellsN13
import Derived.Test.YtcdahnkdongmdaaZTermTellsN14
namespace Go.Proofs.Ytcdahnkdongmdaa.Pure.Ref
set_option linter.unusedVariables false
set_option linter.unusedSimpArgs false
set_option linter.unnecessarySimpa false
open Go.RowKit Go.Proofs.Ytcdahnkdongmdaa.All Go.Proofs.YtcdahnkdongmdaaW.PrintWords Go.Proofs.YtcdahnkdongmdaaW.PrintLast
open Own
theorem evk {α : Type} {g : Nat → Option α} {r : α} (K : Nat) (h : ∀ k, K ≤ k → g k = some r) : Ev g r := ⟨K, h⟩
theorem rsplit_f (b : Int) (hb : b = 64 ∨ b = 4096 ∨ b = 262144) (x : Rg) (h0 : 0 ≤ x.f0) (h1 : x.f0 ≤ x.f1) (h2 : x.f1 ≤ 1114111) (k : Nat) : exegeteref03_split.f (k + 2) x.f0 x.f1 b = some (sp1 b x) := by
  have q0 : x.f0 / b * b = x.f0 - x.f0 % b ∧ 0 ≤ x.f0 / b ∧ x.f0 / b ≤ x.f0 ∧ 0 ≤ x.f0 % b ∧ x.f0 % b < b := by rcases hb with rfl | rfl | rfl <;> omega
  have q1 : x.f1 / b * b = x.f1 - x.f1 % b ∧ 0 ≤ x.f1 / b ∧ x.f1 / b ≤ x.f1 ∧ 0 ≤ x.f1 % b ∧ x.f1 % b < b := by rcases hb with rfl | rfl | rfl <;> omega
  have hbb : 64 ≤ b ∧ b ≤ 262144 := by rcases hb with rfl | rfl | rfl <;> omega
  have hne : ¬ b = 0 := by omega
  have d0 : wrap64 (Int.tdiv x.f0 b) = x.f0 / b := by rw [Int.tdiv_eq_ediv_of_nonneg h0, wrq (by omega) (by omega)]
  have d1 : wrap64 (Int.tdiv x.f1 b) = x.f1 / b := by rw [Int.tdiv_eq_ediv_of_nonneg (by omega), wrq (by omega) (by omega)]
  have m0 : Int.tmod x.f0 b = x.f0 % b := Int.tmod_eq_emod_of_nonneg h0
  have m1 : Int.tmod x.f1 b = x.f1 % b := Int.tmod_eq_emod_of_nonneg (by omega)
  have w0 : wrap64 (x.f0 / b * b) = x.f0 - x.f0 % b := by rw [q0.1, wrq (by omega) (by omega)]
  have w1 : wrap64 (x.f1 / b * b) = x.f1 - x.f1 % b := by rw [q1.1, wrq (by omega) (by omega)]
  have w2 : wrap64 (wrap64 (x.f0 - x.f0 % b + b) - 1) = x.f0 - x.f0 % b + (b - 1) := by rw [wrq (x := x.f0 - x.f0 % b + b) (by omega) (by omega), wrq (by omega) (by omega)]; omega
  have w3 : wrap64 (x.f0 - x.f0 % b + (b - 1) + 1) = x.f0 - x.f0 % b + b := by rw [wrq (by omega) (by omega)]; omega
  have w4 : wrap64 (x.f1 - x.f1 % b - 1) = x.f1 - x.f1 % b - 1 := wrq (by omega) (by omega)
  have w5 : wrap64 (b - 1) = b - 1 := wrq (by omega) (by omega)
  have w6 : wrap64 (x.f1 - x.f1 % b - 1 + 1) = x.f1 - x.f1 % b - 1 + 1 := wrq (by omega) (by omega)
  have w7 : wrap64 (x.f1 + 1) = x.f1 + 1 := wrq (by omega) (by omega)
  have len0 : ([] : List Rg).length < 8796093022208 := by decide
  have len1 : ∀ y : Rg, ([y] : List Rg).length < 8796093022208 := fun y => by simp
  have len2 : ∀ y z : Rg, ([y, z] : List Rg).length < 8796093022208 := fun y z => by simp
  unfold exegeteref03_split.f
  simp only [exegeteref03_split.j0, exegeteref03_split.j1, hne, if_false, d0, d1, m0, m1, w0, w1, w2, w3, w4, w5]
  unfold sp1
  by_cases c : x.f0 / b = x.f1 / b
  · rw [if_pos c, if_pos c, if_pos len0]; try rfl
  · rw [if_neg c, if_neg c]
    by_cases c1 : x.f0 % b = 0
    · rw [if_pos c1]
      simp only [c1, if_true, List.nil_append]
      by_cases c2 : x.f1 % b = b - 1
      · simp only [c2, if_true, Int.lt_irrefl, if_false, List.append_nil]
        rw [if_pos h1, if_pos len0, if_pos h1, Option.bind_some]
      · simp only [c2, if_false]
        have c4 : x.f1 - x.f1 % b - 1 < x.f1 := by omega
        by_cases c3 : x.f0 ≤ x.f1 - x.f1 % b - 1
        · rw [if_pos c3, if_pos len0, Option.bind_some, if_pos c4, if_pos (len1 _), if_pos c3, if_pos c4, w6]; try rfl
        · rw [if_neg c3, if_pos c4, if_pos len0, if_neg c3, if_pos c4, w6]; try rfl
    · rw [if_neg c1, if_pos len0]
      simp only [c1, if_false, List.nil_append]
      by_cases c2 : x.f1 % b = b - 1
      · simp only [c2, if_true, Int.lt_irrefl, if_false, List.append_nil]
        by_cases c3 : x.f0 - x.f0 % b + b ≤ x.f1
        · rw [if_pos c3, if_pos (len1 _), Option.bind_some, if_pos c3]; try rfl
        · rw [if_neg c3, if_neg c3]; try rfl
      · simp only [c2, if_false]
        have c4 : x.f1 - x.f1 % b - 1 < x.f1 := by omega
        by_cases c3 : x.f0 - x.f0 % b + b ≤ x.f1 - x.f1 % b - 1
        · rw [if_pos c3, if_pos (len1 _), Option.bind_some, if_pos c4, if_pos (by simp), if_pos c3, if_pos c4, w6]; try rfl
        · rw [if_neg c3, if_pos c4, if_pos (len1 _), if_neg c3, if_pos c4, w6]; try rfl
def tLow : List Int := [0, 128, 2048, 57344, 65536]
def tHigh : List Int := [127, 2047, 55295, 65535, 1114111]
def tBy : List (List Int) := [[], [64], [4096, 64], [4096, 64], [262144, 4096, 64]]
theorem low_at {j : Int} (hj : 0 ≤ j ∧ j < 5) : rd tLow j = kLo j := by
  obtain rfl | rfl | rfl | rfl | rfl : j = 0 ∨ j = 1 ∨ j = 2 ∨ j = 3 ∨ j = 4 := by omega
  all_goals rfl
theorem high_at {j : Int} (hj : 0 ≤ j ∧ j < 5) : rd tHigh j = kHi j := by
  obtain rfl | rfl | rfl | rfl | rfl : j = 0 ∨ j = 1 ∨ j = 2 ∨ j = 3 ∨ j = 4 := by omega
  all_goals rfl
section
variable {R : List (List Rg)} (N : List Rg) (i : Int)
theorem rof_l5 (out : List (List Rg)) (ho : out.length ≤ 1000000) (j m : Int) (P : List Rg) (a b : List Int) (ha : Bytes a) (hb : Bytes b) (hl : a.length = b.length) (hn : a.length ≤ 4) : ∀ (d s : Nat) (acc : List Rg), s + d = a.length → acc.length + d ≤ 1000 →
    Ev (fun k => exegeteref03_Of.l4 k (out ++ [acc ++ List.zipWith (fun x y => (⟨x, y⟩ : Rg)) (a.drop s) (b.drop s)]) tLow tHigh tBy N i j P (wrap64 (m + 1))) R →
    Ev (fun k => exegeteref03_Of.l5 k out tLow tHigh tBy N i j P m a b acc (s : Int)) R
  | 0, s, acc, h, _, H => by
    rw [List.drop_eq_nil_of_le (by omega), List.zipWith_nil_left, List.append_nil] at H
    refine Ev.step (fun k => ?_) H
    try dsimp only
    rw [exegeteref03_Of.l5, if_neg (by omega), if_pos (by omega)]
  | d + 1, s, acc, h, hacc, H => by
    have h1 := ha (rd a (s : Int)) (by
      have e : rd a (s : Int) = a[s] := by simp [rd, List.getElem?_eq_getElem (show s < a.length by omega)]
      rw [e]; exact List.getElem_mem _)
    have h2 := hb (rd b (s : Int)) (by
      have e : rd b (s : Int) = b[s] := by simp [rd, List.getElem?_eq_getElem (show s < b.length by omega)]
      rw [e]; exact List.getElem_mem _)
    rw [rd_drop_i (show s < a.length by omega), rd_drop_i (show s < b.length by omega), List.zipWith_cons_cons] at H
    have hnx := rof_l5 out ho j m P a b ha hb hl hn d (s + 1) (acc ++ [⟨rd a (s : Int), rd b (s : Int)⟩]) (by omega) (by simp; omega) (by rw [List.append_assoc]; exact H)
    rw [show ((s + 1 : Nat) : Int) = (s : Int) + 1 by omega] at hnx
    refine Ev.step (fun k => ?_) hnx
    try dsimp only
    rw [exegeteref03_Of.l5, if_pos (by omega), if_pos (by omega), if_pos (by omega), if_pos (by omega), wrq (x := rd a (s : Int)) (by omega) (by omega), wrq (x := rd b (s : Int)) (by omega) (by omega), wrq (x := (s : Int) + 1) (by omega) (by omega)]
theorem rof_l4 (j : Int) (P : List Rg) (hP : P.length ≤ 1000) (hg : ∀ x ∈ P, All.mayB x.f0 = true ∧ All.mayB x.f1 = true ∧ szOf x.f0 = szOf x.f1) : ∀ (d m : Nat) (out : List (List Rg)), m + d = P.length → out.length + d ≤ 900000 →
    Ev (fun k => exegeteref03_Of.l1 k (out ++ (P.drop m).map oneB) tLow tHigh tBy N i (wrap64 (j + 1))) R →
    Ev (fun k => exegeteref03_Of.l4 k out tLow tHigh tBy N i j P (m : Int)) R
  | 0, m, out, h, _, H => by
    rw [List.drop_eq_nil_of_le (by omega), List.map_nil, List.append_nil] at H
    refine Ev.step (fun k => ?_) H
    try dsimp only
    rw [exegeteref03_Of.l4, if_neg (by omega)]
  | d + 1, m, out, h, ho, H => by
    have hx := hg _ (rd_memq (show m < P.length by omega))
    have hl : (putOf (rd_T35 P (m : Int)).f0).length = (putOf (rd_T35 P (m : Int)).f1).length := by rw [put_length, put_length, hx.2.2]
    have hn : (putOf (rd_T35 P (m : Int)).f0).length ≤ 4 := by
      have := put_length (rd_T35 P (m : Int)).f0
      have := sz_range (rd_T35 P (m : Int)).f0
      omega
    rw [rd_dropq (show m < P.length by omega), List.map_cons] at H
    have hnx := rof_l4 j P hP hg d (m + 1) (out ++ [oneB (rd_T35 P (m : Int))]) (by omega) (by simp; omega) (by rw [List.append_assoc]; exact H)
    rw [show ((m + 1 : Nat) : Int) = (m : Int) + 1 by omega] at hnx
    have h5 := rof_l5 (R := R) N i out (by omega) j (m : Int) P _ _ (put_bytes hx.1) (put_bytes hx.2.1) hl hn _ 0 [] (Nat.zero_add _) (by simp; omega) (by
      rw [List.drop_zero, List.drop_zero, List.nil_append, wrq (x := (m : Int) + 1) (by omega) (by omega)]
      exact hnx)
    refine Ev.step (fun k => ?_) h5
    try dsimp only
    rw [exegeteref03_Of.l4, if_pos (by omega), if_pos (by omega), rput_f, if_pos hx.1, Option.bind_some, rput_f, if_pos hx.2.1, Option.bind_some]
    rfl
theorem rof_l3 (out : List (List Rg)) (j s b : Int) (hj : 0 ≤ j ∧ j < 5) (hs : 0 ≤ s ∧ s < ((rd_L7 tBy j).length : Int)) (hsb : rd (rd_L7 tBy j) s = b) (hb : b = 64 ∨ b = 4096 ∨ b = 262144) (P : List Rg) (hP : P.length ≤ 1000) (hg : ∀ x ∈ P, 0 ≤ x.f0 ∧ x.f0 ≤ x.f1 ∧ x.f1 ≤ 1114111) :
    ∀ (d m : Nat) (nx : List Rg), m + d = P.length → nx.length + 3 * d ≤ 100000 →
    Ev (fun k => exegeteref03_Of.l2 k out tLow tHigh tBy N i j (nx ++ spB b (P.drop m)) (wrap64 (s + 1))) R →
    Ev (fun k => exegeteref03_Of.l3 k out tLow tHigh tBy N i j P s nx (m : Int)) R
  | 0, m, nx, h, _, H => by
    rw [List.drop_eq_nil_of_le (by omega), show spB b [] = [] from rfl, List.append_nil] at H
    refine Ev.step (fun k => ?_) H
    try dsimp only
    rw [exegeteref03_Of.l3, if_neg (by omega)]
  | d + 1, m, nx, h, hnx0, H => by
    have hx := hg _ (rd_memq (show m < P.length by omega))
    have e : spB b (P.drop m) = sp1 b (rd_T35 P (m : Int)) ++ spB b (P.drop (m + 1)) := by
      rw [rd_dropq (show m < P.length by omega)]; unfold spB; rw [List.flatMap_cons]
    have hl3 := sp1_length b (rd_T35 P (m : Int))
    rw [e] at H
    have hnx := rof_l3 out j s b hj hs hsb hb P hP hg d (m + 1) (nx ++ sp1 b (rd_T35 P (m : Int))) (by omega) (by rw [List.length_append]; omega) (by rw [List.append_assoc]; exact H)
    rw [show ((m + 1 : Nat) : Int) = (m : Int) + 1 by omega] at hnx
    have hsp : Ev (fun k => exegeteref03_split.f k (rd_T35 P (m : Int)).f0 (rd_T35 P (m : Int)).f1 b) (sp1 b (rd_T35 P (m : Int))) := evk 2 fun k hk => by
      obtain ⟨k, rfl⟩ : ∃ n, k = n + 2 := ⟨k - 2, by omega⟩
      exact rsplit_f b hb _ hx.1 hx.2.1 hx.2.2 k
    refine Ev.step (f := fun k => (exegeteref03_split.f k (rd_T35 P (m : Int)).f0 (rd_T35 P (m : Int)).f1 b).bind fun t => if nx.length + t.length < 8796093022208 then exegeteref03_Of.l3 k out tLow tHigh tBy N i j P s (nx ++ t) (wrap64 ((m : Int) + 1)) else none) (fun k => ?_)
      (Ev.bind (f := fun k t => if nx.length + t.length < 8796093022208 then exegeteref03_Of.l3 k out tLow tHigh tBy N i j P s (nx ++ t) (wrap64 ((m : Int) + 1)) else none) hsp ?_)
    · try dsimp only
      rw [exegeteref03_Of.l3, if_pos (by omega), if_pos (by omega), if_pos hj.1, if_pos (by show j < 5; omega), if_pos hs.1, if_pos hs.2, hsb]
    · refine Ev.congr (fun k => ?_) hnx
      try dsimp only
      rw [if_pos (by omega), wrq (x := (m : Int) + 1) (by omega) (by omega)]
theorem rof_more (out : List (List Rg)) (j s b : Int) (hj : 0 ≤ j ∧ j < 5) (hs : 0 ≤ s ∧ s < ((rd_L7 tBy j).length : Int)) (hsb : rd (rd_L7 tBy j) s = b) (hb : b = 64 ∨ b = 4096 ∨ b = 262144) (P : List Rg) (hP : P.length ≤ 1000) (hg : ∀ x ∈ P, 0 ≤ x.f0 ∧ x.f0 ≤ x.f1 ∧ x.f1 ≤ 1114111)
    (H : Ev (fun k => exegeteref03_Of.l2 k out tLow tHigh tBy N i j (spB b P) (wrap64 (s + 1))) R) : Ev (fun k => exegeteref03_Of.l2 k out tLow tHigh tBy N i j P s) R := by
  have h3 := rof_l3 (R := R) N i out j s b hj hs hsb hb P hP hg P.length 0 [] (by omega) (by simp; omega) (by rw [List.drop_zero, List.nil_append]; exact H)
  refine Ev.step (fun k => ?_) h3
  try dsimp only
  rw [exegeteref03_Of.l2, if_pos hj.1, if_pos (by show j < 5; omega), if_pos hs.2]
  rfl
theorem rof_done (out : List (List Rg)) (j s : Int) (hj : 0 ≤ j ∧ j < 5) (hs : ¬ s < ((rd_L7 tBy j).length : Int)) (P : List Rg)
    (H : Ev (fun k => exegeteref03_Of.l4 k out tLow tHigh tBy N i j P 0) R) : Ev (fun k => exegeteref03_Of.l2 k out tLow tHigh tBy N i j P s) R := by
  refine Ev.step (fun k => ?_) H
  try dsimp only
  rw [exegeteref03_Of.l2, if_pos hj.1, if_pos (by show j < 5; omega), if_neg hs]
theorem rof_l2 (out : List (List Rg)) (j : Int) (hj : 0 ≤ j ∧ j < 5) (x : Rg) (x0 : 0 ≤ x.f0) (x1 : x.f0 ≤ x.f1) (x2 : x.f1 ≤ 1114111)
    (H : Ev (fun k => exegeteref03_Of.l4 k out tLow tHigh tBy N i j (splL (kMore j) [x]) 0) R) : Ev (fun k => exegeteref03_Of.l2 k out tLow tHigh tBy N i j [x] 0) R := by
  have hx := cov_self x x1
  have okx := ok_of_cov hx x0 x2
  have v1 := spB_length 262144 [x]
  have v2 := spB_length 4096 (spB 262144 [x])
  have u1 := spB_length 4096 [x]
  rw [List.length_singleton] at v1 u1
  have c18 := (cov_spB 262144 (.inr (.inr rfl)) x x0 hx).1
  have c12 := (cov_spB 4096 (.inr (.inl rfl)) x x0 hx).1
  have c1812 := (cov_spB 4096 (.inr (.inl rfl)) x x0 c18).1
  have s1 : wrap64 ((0 : Int) + 1) = 1 := by decide +kernel
  have s2 : wrap64 ((1 : Int) + 1) = 2 := by decide +kernel
  have s3 : wrap64 ((2 : Int) + 1) = 3 := by decide +kernel
  obtain rfl | rfl | rfl | rfl | rfl : j = 0 ∨ j = 1 ∨ j = 2 ∨ j = 3 ∨ j = 4 := by omega
  · exact rof_done N i out 0 0 hj (by decide) _ H
  · refine rof_more N i out 1 0 64 hj (by decide) rfl (.inl rfl) _ (by simp) okx ?_
    rw [s1]
    exact rof_done N i out 1 1 hj (by decide) _ H
  · refine rof_more N i out 2 0 4096 hj (by decide) rfl (.inr (.inl rfl)) _ (by simp) okx ?_
    rw [s1]
    refine rof_more N i out 2 1 64 hj (by decide) rfl (.inl rfl) _ (by omega) (ok_of_cov c12 x0 x2) ?_
    rw [s2]
    exact rof_done N i out 2 2 hj (by decide) _ H
  · refine rof_more N i out 3 0 4096 hj (by decide) rfl (.inr (.inl rfl)) _ (by simp) okx ?_
    rw [s1]
    refine rof_more N i out 3 1 64 hj (by decide) rfl (.inl rfl) _ (by omega) (ok_of_cov c12 x0 x2) ?_
    rw [s2]
    exact rof_done N i out 3 2 hj (by decide) _ H
  · refine rof_more N i out 4 0 262144 hj (by decide) rfl (.inr (.inr rfl)) _ (by simp) okx ?_
    rw [s1]
    refine rof_more N i out 4 1 4096 hj (by decide) rfl (.inr (.inl rfl)) _ (by omega) (ok_of_cov c18 x0 x2) ?_
    rw [s2]
    refine rof_more N i out 4 2 64 hj (by decide) rfl (.inl rfl) _ (by omega) (ok_of_cov c1812 x0 x2) ?_
    rw [s3]
    exact rof_done N i out 4 3 hj (by decide) _ H
end
theorem rof_l1 {R : List (List Rg)} (N : List Rg) (i : Nat) (hi : i < N.length) (hN : N.length ≤ 1000000) (h0 : 0 ≤ (rd_T35 N (i : Int)).f0) (h1 : (rd_T35 N (i : Int)).f0 ≤ (rd_T35 N (i : Int)).f1) (h2 : (rd_T35 N (i : Int)).f1 ≤ 1114111) :
    ∀ (d : Nat) (out : List (List Rg)), d ≤ 5 → out.length + 27 * d ≤ 800000 → Ev (fun k => exegeteref03_Of.l0 k (out ++ (pcsFrom (rd_T35 N (i : Int)) d).map oneB) tLow tHigh tBy N (wrap64 ((i : Int) + 1))) R →
    Ev (fun k => exegeteref03_Of.l1 k out tLow tHigh tBy N (i : Int) (5 - (d : Nat) : Int)) R
  | 0, out, _, _, H => by
    rw [pcsFrom, List.map_nil, List.append_nil] at H
    refine Ev.step (fun k => ?_) H
    try dsimp only
    rw [exegeteref03_Of.l1, if_neg (by omega)]
  | d + 1, out, hd, ho, H => by
    have hnx := rof_l1 (R := R) N i hi hN h0 h1 h2 d
    rw [pcsFrom] at H
    generalize hjj : (5 - (d + 1 : Nat) : Int) = j at *
    have hj : 0 ≤ j ∧ j < 5 := by omega
    have hpl := pcs_length (rd_T35 N (i : Int)) j h0 h2
    have hpg := pcs_good (rd_T35 N (i : Int)) j hj h0 h2
    have hnx2 := hnx (out ++ (pcs (rd_T35 N (i : Int)) j).map oneB) (by omega) (by rw [List.length_append, List.length_map]; omega) (by rw [List.append_assoc, ← List.map_append]; exact H)
    rw [show (5 - (d : Nat) : Int) = wrap64 (j + 1) by rw [wrq (by omega) (by omega)]; omega] at hnx2
    have h3 : Ev (fun k => exegeteref03_Of.j3 k out tLow tHigh tBy N (i : Int) j (mxq (rd_T35 N (i : Int)).f0 (kLo j)) (mnq (rd_T35 N (i : Int)).f1 (kHi j))) R := by
      have m1 := (mq (rd_T35 N (i : Int)).f0 (kLo j)).1
      have m2 := (mq (rd_T35 N (i : Int)).f1 (kHi j)).2
      have hk := k_in j
      by_cases c : mxq (rd_T35 N (i : Int)).f0 (kLo j) ≤ mnq (rd_T35 N (i : Int)).f1 (kHi j)
      · have e : pcs (rd_T35 N (i : Int)) j = splL (kMore j) [⟨mxq (rd_T35 N (i : Int)).f0 (kLo j), mnq (rd_T35 N (i : Int)).f1 (kHi j)⟩] := by unfold pcs cutK; rw [if_pos c]
        have h4 := rof_l4 (R := R) N (i : Int) j (pcs (rd_T35 N (i : Int)) j) (by omega) (fun x hx => ⟨(hpg x hx).low, (hpg x hx).high, (hpg x hx).sz⟩) _ 0 out (Nat.zero_add _) (by omega) (by rw [List.drop_zero]; exact hnx2)
        rw [e] at h4
        have hl2 := rof_l2 (R := R) N (i : Int) out j hj ⟨mxq (rd_T35 N (i : Int)).f0 (kLo j), mnq (rd_T35 N (i : Int)).f1 (kHi j)⟩ (by show 0 ≤ mxq _ _; omega) c (by show mnq _ _ ≤ _; omega) h4
        refine Ev.step (fun k => ?_) hl2
        try dsimp only
        rw [exegeteref03_Of.j3, if_neg (by omega)]
      · have e : pcs (rd_T35 N (i : Int)) j = [] := by unfold pcs cutK; rw [if_neg c, splL_nil]
        rw [e, List.map_nil, List.append_nil] at hnx2
        refine Ev.step (fun k => ?_) hnx2
        try dsimp only
        rw [exegeteref03_Of.j3, if_pos (by omega)]
    have h2' : Ev (fun k => exegeteref03_Of.j2 k out tLow tHigh tBy N (i : Int) j (mxq (rd_T35 N (i : Int)).f0 (kLo j)) (rd_T35 N (i : Int)).f1) R := by
      refine Ev.step (fun k => ?_) h3
      try dsimp only
      rw [exegeteref03_Of.j2, if_pos hj.1, if_pos (by show j < 5; omega), high_at hj]
      unfold mnq
      by_cases c : (rd_T35 N (i : Int)).f1 > kHi j
      · rw [if_pos c, if_pos (show kHi j < _ from c)]
      · rw [if_neg c, if_neg (show ¬ kHi j < _ from c)]
    refine Ev.step (fun k => ?_) h2'
    try dsimp only
    rw [exegeteref03_Of.l1, if_pos hj.2, if_pos (by omega), if_pos (by omega), if_pos hj.1, if_pos (by show j < 5; omega), low_at hj]
    unfold mxq
    by_cases c : (rd_T35 N (i : Int)).f0 < kLo j
    · rw [if_pos c, if_pos c]
    · rw [if_neg c, if_neg c]
theorem rof_l0 (N : List Rg) (hN : N.length ≤ 5000) (hr : ∀ r ∈ N, 0 ≤ r.f0 ∧ r.f0 ≤ r.f1 ∧ r.f1 ≤ 1114111) : ∀ (d i : Nat) (out : List (List Rg)), i + d = N.length → out.length + 135 * d ≤ 700000 →
    Ev (fun k => exegeteref03_Of.l0 k out tLow tHigh tBy N (i : Int)) (out ++ (ofP (N.drop i)).map oneB)
  | 0, i, out, h, _ => by
    rw [List.drop_eq_nil_of_le (by omega)]
    refine Ev.step (fun k => ?_) (Ev.now _)
    try dsimp only
    rw [exegeteref03_Of.l0, if_neg (by omega)]
    simp [ofP]
  | d + 1, i, out, h, ho => by
    have hx := hr _ (rd_memq (show i < N.length by omega))
    have hpl := pcsFrom_length (rd_T35 N (i : Int)) hx.1 hx.2.2 5
    have hnx := rof_l0 N hN hr d (i + 1) (out ++ (pcsFrom (rd_T35 N (i : Int)) 5).map oneB) (by omega) (by rw [List.length_append, List.length_map]; omega)
    have e : ofP (N.drop i) = pcsFrom (rd_T35 N (i : Int)) 5 ++ ofP (N.drop (i + 1)) := by
      rw [rd_dropq (show i < N.length by omega)]; unfold ofP; rw [List.flatMap_cons]
    rw [e, List.map_append, ← List.append_assoc]
    have hl1 := rof_l1 N i (by omega) (by omega) hx.1 hx.2.1 hx.2.2 5 out (by omega) (by omega) (by
      rw [wrq (x := (i : Int) + 1) (by omega) (by omega), show (i : Int) + 1 = ((i + 1 : Nat) : Int) by omega]; exact hnx)
    rw [show (5 - ((5 : Nat) : Int)) = 0 by decide] at hl1
    refine Ev.step (fun k => ?_) hl1
    try dsimp only
    rw [exegeteref03_Of.l0, if_pos (by omega)]
theorem rof_f (l : List Rg) (hl : l.length ≤ 60) : Ev (fun k => exegeteref03_Of.f k l) ((piecesOf l).map oneB) := by
  have hn : Ev (fun k => exegeteref02_Norm.f k l) (pickB (hasB l) l) := evk 5000000 fun k hk => rnorm_f k l hl hk
  have hc := (norm_upto l).can
  have hlen := pickB_length (hasB l) l
  unfold piecesOf
  generalize pickB (hasB l) l = N at *
  have hr : ∀ r ∈ N, 0 ≤ r.f0 ∧ r.f0 ≤ r.f1 ∧ r.f1 ≤ 1114111 := fun r hm => hc.mem r hm
  have h0 := rof_l0 N (by omega) hr N.length 0 [] (by omega) (by simp; omega)
  rw [List.drop_zero, List.nil_append] at h0
  exact Ev.bind (f := fun k t => exegeteref03_Of.l0 k [] tLow tHigh tBy t 0) hn h0
end Go.Proofs.Ytcdahnkdongmdaa.Pure.Ref
