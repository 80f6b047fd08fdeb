/- Texts of the claim TermTells, merged, without what it does not use. -/
import Derived.Test.YtcdahnkdongmdaaZTermTellsX8
import Derived.Test.YtcdahnkdongmdaaZTermTellsX7
import Derived.Test.YtcdahnkdongmdaaZTermTellsX6
import Derived.Test.YtcdahnkdongmdaaZTermTellsN6
namespace Go.Proofs.Ytcdahnkdongmdaa.Pure
set_option linter.unusedVariables false
set_option linter.unusedSimpArgs false
set_option linter.unnecessarySimpa false
open Go.RowKit Go.Proofs.Ytcdahnkdongmdaa.All Go.Proofs.YtcdahnkdongmdaaW.PrintWords Go.Proofs.YtcdahnkdongmdaaW.PrintLast
open Own
theorem rd_drop_i {l : List Int} {i : Nat} (h : i < l.length) : l.drop i = rd l (i : Int) :: l.drop (i + 1) := by
  rw [List.drop_eq_getElem_cons h]; simp [rd, List.getElem?_eq_getElem h]
theorem oneq_l0 (a b : List Int) (ha : Bytes a) (hb : Bytes b) (hl : a.length = b.length) (hn : a.length ≤ 4) : ∀ (d k i : Nat) (out : List Rg), i + d = a.length → d < k → out.length + d ≤ 1000 →
    seqs_one.l0 k a b out (a.length : Int) (i : Int) = some (out ++ List.zipWith (fun x y => (⟨x, y⟩ : Rg)) (a.drop i) (b.drop i))
  | d, 0, i, out, _, h, _ => by omega
  | 0, k + 1, i, out, h, _, _ => by
    simp only [seqs_one.l0]
    rw [if_neg (by omega), List.drop_eq_nil_of_le (by omega)]; simp
  | d + 1, k + 1, i, out, h, hk, ho => by
    rw [seqs_one.l0]
    have h1 := ha (rd a (i : Int)) (by
      have e : rd a (i : Int) = a[i] := by simp [rd, List.getElem?_eq_getElem (show i < a.length by omega)]
      rw [e]; exact List.getElem_mem _)
    have h2 := hb (rd b (i : Int)) (by
      have e : rd b (i : Int) = b[i] := by simp [rd, List.getElem?_eq_getElem (show i < b.length by omega)]
      rw [e]; exact List.getElem_mem _)
    have hnx := oneq_l0 a b ha hb hl hn d k (i + 1) (out ++ [⟨rd a (i : Int), rd b (i : Int)⟩]) (by omega) (by omega) (by simp; omega)
    rw [show ((i + 1 : Nat) : Int) = (i : Int) + 1 by omega] at hnx
    rw [if_pos (by omega), if_pos (by omega), if_pos (by omega), if_pos (by omega), if_pos (by omega), wrq (by omega) (by omega), wrq (by omega) (by omega), wrq (by omega) (by omega), hnx, rd_drop_i (show i < a.length by omega), rd_drop_i (show i < b.length by omega), List.zipWith_cons_cons]
    simp
theorem oneq_f (x : Rg) (h0 : All.mayB x.f0 = true) (h1 : All.mayB x.f1 = true) (hs : szOf x.f0 = szOf x.f1) (k : Nat) (hk : 6 ≤ k) : seqs_one.f k x.f0 x.f1 = some (oneB x) := by
  unfold seqs_one.f utf_Put.f
  rw [if_pos h0, if_pos h1, Option.bind_some, Option.bind_some]
  have l0 := put_length x.f0
  have l1 := put_length x.f1
  have s := sz_range x.f0
  have := oneq_l0 (putOf x.f0) (putOf x.f1) (put_bytes h0) (put_bytes h1) (by rw [l0, l1, hs]) (by omega) (putOf x.f0).length k 0 [] (by omega) (by omega) (by simp; omega)
  rw [List.drop_zero, List.drop_zero, List.nil_append] at this
  exact this
def mxq (a b : Int) : Int := if a < b then b else a
def mnq (a b : Int) : Int := if b < a then b else a
def cutK (r : Rg) (j : Int) : List Rg := if mxq r.f0 (kLo j) ≤ mnq r.f1 (kHi j) then [⟨mxq r.f0 (kLo j), mnq r.f1 (kHi j)⟩] else []
theorem k_in (j : Int) : 0 ≤ kLo j ∧ kLo j ≤ kHi j ∧ kHi j ≤ 1114111 := by
  unfold kLo kHi; repeat' split
  all_goals omega
theorem mq (a b : Int) : (a ≤ mxq a b ∧ b ≤ mxq a b ∧ (mxq a b = a ∨ mxq a b = b)) ∧ mnq a b ≤ a ∧ mnq a b ≤ b ∧ (mnq a b = a ∨ mnq a b = b) := by
  unfold mxq mnq; repeat' split
  all_goals omega
theorem both_cut (r : Rg) (h0 : 0 ≤ r.f0) (h1 : r.f0 ≤ r.f1) (h2 : r.f1 ≤ 1114111) (j : Int) : bothB [r] [⟨kLo j, kHi j⟩] = cutK r j := by
  have hk := k_in j
  have m1 := (mq r.f0 (kLo j)).1
  have m2 := (mq r.f1 (kHi j)).2
  refine (both_upto [r] [⟨kLo j, kHi j⟩]).ext (G := bothF [r] [⟨kLo j, kHi j⟩]) ?_ fun _ _ _ => rfl
  unfold cutK
  generalize mxq r.f0 (kLo j) = lo at *
  generalize mnq r.f1 (kHi j) = hi at *
  have hF : ∀ n, bothF [r] [⟨kLo j, kHi j⟩] n = true ↔ lo ≤ n ∧ n ≤ hi := fun n => by
    unfold bothF
    rw [hasB_cons, hasB_cons, hasB_nil, Bool.or_false, Bool.or_false, Bool.and_eq_true, inR_iff, inR_iff]
    show (r.f0 ≤ n ∧ n ≤ r.f1) ∧ (kLo j ≤ n ∧ n ≤ kHi j) ↔ _
    omega
  by_cases c : lo ≤ hi
  · rw [if_pos c]
    refine ⟨⟨by show 0 ≤ lo; omega, c, by show hi ≤ 1114111; omega, trivial⟩, (fun s hs => by rcases List.mem_singleton.mp hs with rfl; show hi < 1114112; omega), fun n => ?_⟩
    rw [hasB_cons, hasB_nil, Bool.or_false, Bool.eq_iff_iff, Bool.and_eq_true, Bool.and_eq_true, decide_eq_true_eq, decide_eq_true_eq, hF, inR_iff]
    show (lo ≤ n ∧ n ≤ hi) ↔ _
    omega
  · rw [if_neg c]
    refine ⟨trivial, (fun s hs => by cases hs), fun n => ?_⟩
    rw [hasB_nil, Bool.eq_iff_iff, Bool.and_eq_true, Bool.and_eq_true, hF]
    constructor
    · intro h; cases h
    · rintro ⟨_, h⟩; omega
def splL (n : Int) (l : List Rg) : List Rg :=
  if n = 0 then l else if n = 1 then spB 64 l else if n = 2 then spB 64 (spB 4096 l) else spB 64 (spB 4096 (spB 262144 l))
def pcs (r : Rg) (j : Int) : List Rg := splL (kMore j) (cutK r j)
theorem k_more (j : Int) : kMore j = 0 ∨ kMore j = 1 ∨ kMore j = 2 ∨ kMore j = 3 := by
  unfold kMore; repeat' split
  all_goals omega
theorem ok_of_cov {x : Rg} {l : List Rg} (h : Cov x l) (h0 : 0 ≤ x.f0) (h1 : x.f1 ≤ 1114111) : ∀ y ∈ l, 0 ≤ y.f0 ∧ y.f0 ≤ y.f1 ∧ y.f1 ≤ 1114111 := fun y hy => by
  have := h.asc.mem y hy
  have := h.top y hy
  omega
theorem of_l2 (N : List Rg) (out : List (List Rg)) (i j f0 f1 : Int) (all : List Rg) (hall : all = [] ∨ ∃ x : Rg, all = [x] ∧ 0 ≤ x.f0 ∧ x.f0 ≤ x.f1 ∧ x.f1 ≤ 1114111) (n : Int) (hn : n = 0 ∨ n = 1 ∨ n = 2 ∨ n = 3) (k : Nat) (hk : 200 ≤ k) :
    seqs_Of.l2 (k + n.toNat + 1) out all n N (N.length : Int) i j f0 f1 = seqs_Of.l3 k out N (N.length : Int) i j (splL n all) ((splL n all).length : Int) 0 f0 f1 := by
  have h6 : wrap64 ((1 : Int) * 6) = 6 := by decide +kernel
  have h12 : wrap64 ((2 : Int) * 6) = 12 := by decide +kernel
  have h18 : wrap64 ((3 : Int) * 6) = 18 := by decide +kernel
  have s1 : wrap64 ((1 : Int) - 1) = 0 := by decide +kernel
  have s2 : wrap64 ((2 : Int) - 1) = 1 := by decide +kernel
  have s3 : wrap64 ((3 : Int) - 1) = 2 := by decide +kernel
  have step0 : ∀ (k' : Nat) (l : List Rg), seqs_Of.l2 (k' + 1) out l 0 N (N.length : Int) i j f0 f1 = seqs_Of.l3 k' out N (N.length : Int) i j l (l.length : Int) 0 f0 f1 := fun k' l => by
    rw [seqs_Of.l2, if_neg (by decide)]
  rcases hall with rfl | ⟨x, rfl, x0, x1, x2⟩
  · have e : ∀ b, spB b [] = [] := fun b => rfl
    have sp : ∀ {a b : Int}, Bits a b → ∀ k', 200 ≤ k' → seqs_split.f k' a [] = some [] := fun hB k' hk' => split_f hB [] (by simp) (fun y hy => by cases hy) k' (by simp; omega)
    unfold splL
    rcases hn with rfl | rfl | rfl | rfl
    · rw [if_pos rfl]; exact step0 k []
    · rw [if_neg (by decide), if_pos rfl, e]
      show seqs_Of.l2 (k + 1 + 1) _ _ _ _ _ _ _ _ _ = _
      rw [seqs_Of.l2, if_pos (by decide), h6, sp bits6 _ (by omega), Option.bind_some, s1, step0]
    · rw [if_neg (by decide), if_neg (by decide), if_pos rfl, e, e]
      show seqs_Of.l2 (k + 2 + 1) _ _ _ _ _ _ _ _ _ = _
      rw [seqs_Of.l2, if_pos (by decide), h12, sp bits12 _ (by omega), Option.bind_some, s2]
      show seqs_Of.l2 (k + 1 + 1) _ _ _ _ _ _ _ _ _ = _
      rw [seqs_Of.l2, if_pos (by decide), h6, sp bits6 _ (by omega), Option.bind_some, s1, step0]
    · rw [if_neg (by decide), if_neg (by decide), if_neg (by decide), e, e, e]
      show seqs_Of.l2 (k + 3 + 1) _ _ _ _ _ _ _ _ _ = _
      rw [seqs_Of.l2, if_pos (by decide), h18, sp bits18 _ (by omega), Option.bind_some, s3]
      show seqs_Of.l2 (k + 2 + 1) _ _ _ _ _ _ _ _ _ = _
      rw [seqs_Of.l2, if_pos (by decide), h12, sp bits12 _ (by omega), Option.bind_some, s2]
      show seqs_Of.l2 (k + 1 + 1) _ _ _ _ _ _ _ _ _ = _
      rw [seqs_Of.l2, if_pos (by decide), h6, sp bits6 _ (by omega), Option.bind_some, s1, step0]
  · have hx := cov_self x x1
    have okx := ok_of_cov hx x0 x2
    have v1 := spB_length 262144 [x]
    have v2 := spB_length 4096 (spB 262144 [x])
    have u1 := spB_length 4096 [x]
    rw [List.length_singleton] at v1 u1
    have c18 := (cov_spB 262144 (.inr (.inr rfl)) x x0 hx).1
    have c12 := (cov_spB 4096 (.inr (.inl rfl)) x x0 hx).1
    have c1812 := (cov_spB 4096 (.inr (.inl rfl)) x x0 c18).1
    unfold splL
    rcases hn with rfl | rfl | rfl | rfl
    · rw [if_pos rfl]; exact step0 k [x]
    · rw [if_neg (by decide), if_pos rfl]
      show seqs_Of.l2 (k + 1 + 1) _ _ _ _ _ _ _ _ _ = _
      rw [seqs_Of.l2, if_pos (by decide), h6, split_f bits6 [x] (by simp) okx _ (by simp; omega), Option.bind_some, s1, step0]
    · rw [if_neg (by decide), if_neg (by decide), if_pos rfl]
      show seqs_Of.l2 (k + 2 + 1) _ _ _ _ _ _ _ _ _ = _
      rw [seqs_Of.l2, if_pos (by decide), h12, split_f bits12 [x] (by simp) okx _ (by simp; omega), Option.bind_some, s2]
      show seqs_Of.l2 (k + 1 + 1) _ _ _ _ _ _ _ _ _ = _
      rw [seqs_Of.l2, if_pos (by decide), h6, split_f bits6 _ (by omega) (ok_of_cov c12 x0 x2) _ (by omega), Option.bind_some, s1, step0]
    · rw [if_neg (by decide), if_neg (by decide), if_neg (by decide)]
      show seqs_Of.l2 (k + 3 + 1) _ _ _ _ _ _ _ _ _ = _
      rw [seqs_Of.l2, if_pos (by decide), h18, split_f bits18 [x] (by simp) okx _ (by simp; omega), Option.bind_some, s3]
      show seqs_Of.l2 (k + 2 + 1) _ _ _ _ _ _ _ _ _ = _
      rw [seqs_Of.l2, if_pos (by decide), h12, split_f bits12 _ (by omega) (ok_of_cov c18 x0 x2) _ (by omega), Option.bind_some, s2]
      show seqs_Of.l2 (k + 1 + 1) _ _ _ _ _ _ _ _ _ = _
      rw [seqs_Of.l2, if_pos (by decide), h6, split_f bits6 _ (by omega) (ok_of_cov c1812 x0 x2) _ (by omega), Option.bind_some, s1, step0]
theorem of_l3 (N : List Rg) (i j f0 f1 : Int) (hj : 0 ≤ j ∧ j < 5) (P : List Rg) (hP : P.length ≤ 1000) (hg : ∀ x ∈ P, All.mayB x.f0 = true ∧ All.mayB x.f1 = true ∧ szOf x.f0 = szOf x.f1) : ∀ (d m k : Nat) (out : List (List Rg)), m + d = P.length → 10 ≤ k → out.length + d ≤ 1000000 →
    seqs_Of.l3 (k + d + 1) out N (N.length : Int) i j P (P.length : Int) (m : Int) f0 f1 = seqs_Of.l1 k (out ++ (P.drop m).map oneB) N (N.length : Int) i (j + 1) f0 f1
  | 0, m, k, out, h, hk, _ => by
    rw [seqs_Of.l3, if_neg (by omega), List.drop_eq_nil_of_le (by omega), wrq (by omega) (by omega)]; simp
  | d + 1, m, k, out, h, hk, ho => by
    have hx := hg _ (rd_memq (show m < P.length by omega))
    have hnx := of_l3 N i j f0 f1 hj P hP hg d (m + 1) k (out ++ [oneB (rd_T35 P (m : Int))]) (by omega) hk (by simp; omega)
    rw [show ((m + 1 : Nat) : Int) = (m : Int) + 1 by omega] at hnx
    rw [seqs_Of.l3, if_pos (by omega), if_pos (by omega), if_pos (by omega), oneq_f _ hx.1 hx.2.1 hx.2.2 _ (by omega), Option.bind_some, if_pos (by omega), wrq (x := (m : Int) + 1) (by omega) (by omega)]
    rw [show k + (d + 1) = k + d + 1 by omega, hnx, rd_dropq (show m < P.length by omega), List.map_cons]
    simp
def pcsFrom (r : Rg) : Nat → List Rg
  | 0 => []
  | d + 1 => pcs r (5 - (d + 1 : Nat) : Int) ++ pcsFrom r d
theorem cutK_one (r : Rg) (j : Int) (h0 : 0 ≤ r.f0) (h2 : r.f1 ≤ 1114111) : cutK r j = [] ∨ ∃ x : Rg, cutK r j = [x] ∧ 0 ≤ x.f0 ∧ x.f0 ≤ x.f1 ∧ x.f1 ≤ 1114111 ∧ kLo j ≤ x.f0 ∧ x.f1 ≤ kHi j := by
  have m1 := (mq r.f0 (kLo j)).1
  have m2 := (mq r.f1 (kHi j)).2
  have hk := k_in j
  unfold cutK
  by_cases c : mxq r.f0 (kLo j) ≤ mnq r.f1 (kHi j)
  · rw [if_pos c]
    exact .inr ⟨_, rfl, by show 0 ≤ mxq _ _; omega, c, by show mnq _ _ ≤ _; omega, by show _ ≤ mxq _ _; omega, by show mnq _ _ ≤ _; omega⟩
  · rw [if_neg c]; exact .inl rfl
theorem splL_one (n : Int) (x : Rg) : splL n [x] = splB n x := rfl
theorem splL_nil (n : Int) : splL n [] = [] := by unfold splL; repeat' split
                                                  all_goals rfl
theorem splL_length (n : Int) (x : Rg) : (splL n [x]).length ≤ 27 := by
  have v1 := spB_length 262144 [x]
  have v2 := spB_length 4096 (spB 262144 [x])
  have v3 := spB_length 64 (spB 4096 (spB 262144 [x]))
  have u1 := spB_length 4096 [x]
  have u2 := spB_length 64 (spB 4096 [x])
  have t1 := spB_length 64 [x]
  rw [List.length_singleton] at v1 u1 t1
  unfold splL
  by_cases c0 : n = 0
  · rw [if_pos c0]; simp
  · rw [if_neg c0]
    by_cases c1 : n = 1
    · rw [if_pos c1]; omega
    · rw [if_neg c1]
      by_cases c2 : n = 2
      · rw [if_pos c2]; omega
      · rw [if_neg c2]; omega
theorem pcs_length (r : Rg) (j : Int) (h0 : 0 ≤ r.f0) (h2 : r.f1 ≤ 1114111) : (pcs r j).length ≤ 27 := by
  unfold pcs
  rcases cutK_one r j h0 h2 with e | ⟨x, e, _⟩
  · rw [e, splL_nil]; simp
  · rw [e]; exact splL_length _ _
theorem k_cases {j : Int} (hj : 0 ≤ j ∧ j < 5) : (kLo j = 0 ∧ kHi j = 127 ∧ kMore j = 0) ∨ (kLo j = 128 ∧ kHi j = 2047 ∧ kMore j = 1) ∨ (kLo j = 2048 ∧ kHi j = 55295 ∧ kMore j = 2) ∨ (kLo j = 57344 ∧ kHi j = 65535 ∧ kMore j = 2) ∨ (kLo j = 65536 ∧ kHi j = 1114111 ∧ kMore j = 3) := by
  obtain rfl | rfl | rfl | rfl | rfl : j = 0 ∨ j = 1 ∨ j = 2 ∨ j = 3 ∨ j = 4 := by omega
  all_goals (unfold kLo kHi kMore; decide)
theorem pcs_good (r : Rg) (j : Int) (hj : 0 ≤ j ∧ j < 5) (h0 : 0 ≤ r.f0) (h2 : r.f1 ≤ 1114111) : ∀ z ∈ pcs r j, Good z := by
  intro z hz
  unfold pcs at hz
  rcases cutK_one r j h0 h2 with e | ⟨x, e, x0, x1, x2, x3, x4⟩
  · rw [e, splL_nil] at hz; cases hz
  · rw [e, splL_one] at hz
    obtain ⟨s1, s2, s3, s4⟩ := splB_spec (kMore j) (k_more j) x x1 x0
    have hm := s1.asc.mem z hz
    have ht := s1.top z hz
    have sz1 : ∀ v : Int, v < 128 → szOf v = 1 := fun v h => by unfold szOf; rw [if_pos h]
    have sz2 : ∀ v : Int, 128 ≤ v → v < 2048 → szOf v = 2 := fun v h h' => by unfold szOf; rw [if_neg (by omega), if_pos h']
    have sz3 : ∀ v : Int, 2048 ≤ v → v < 65536 → szOf v = 3 := fun v h h' => by unfold szOf; rw [if_neg (by omega), if_neg (by omega), if_pos h']
    have sz4 : ∀ v : Int, 65536 ≤ v → szOf v = 4 := fun v h => by unfold szOf; rw [if_neg (by omega), if_neg (by omega), if_neg (by omega)]
    rcases k_cases hj with ⟨a, b, c⟩ | ⟨a, b, c⟩ | ⟨a, b, c⟩ | ⟨a, b, c⟩ | ⟨a, b, c⟩ <;> rw [a] at x3 <;> rw [b] at x4 <;> rw [c] at s2 s3 s4
    · exact ⟨(All.mayB_iff _).mpr (by omega), (All.mayB_iff _).mpr (by omega), hm.2, by rw [sz1 _ (by omega), sz1 _ (by omega)], by omega, fun h => by omega, fun h => by omega, fun h => by omega⟩
    · exact ⟨(All.mayB_iff _).mpr (by omega), (All.mayB_iff _).mpr (by omega), hm.2, by rw [sz2 _ (by omega) (by omega), sz2 _ (by omega) (by omega)], by omega, fun _ => s2 (by decide) z (by rw [c] at hz; exact hz), fun h => by omega, fun h => by omega⟩
    · exact ⟨(All.mayB_iff _).mpr (by omega), (All.mayB_iff _).mpr (by omega), hm.2, by rw [sz3 _ (by omega) (by omega), sz3 _ (by omega) (by omega)], by omega, fun _ => s2 (by decide) z (by rw [c] at hz; exact hz), fun _ => s3 (by decide) z (by rw [c] at hz; exact hz), fun h => by omega⟩
    · exact ⟨(All.mayB_iff _).mpr (by omega), (All.mayB_iff _).mpr (by omega), hm.2, by rw [sz3 _ (by omega) (by omega), sz3 _ (by omega) (by omega)], by omega, fun _ => s2 (by decide) z (by rw [c] at hz; exact hz), fun _ => s3 (by decide) z (by rw [c] at hz; exact hz), fun h => by omega⟩
    · exact ⟨(All.mayB_iff _).mpr (by omega), (All.mayB_iff _).mpr (by omega), hm.2, by rw [sz4 _ (by omega), sz4 _ (by omega)], by omega, fun _ => s2 (by decide) z (by rw [c] at hz; exact hz), fun _ => s3 (by decide) z (by rw [c] at hz; exact hz), fun _ => s4 (by decide) z (by rw [c] at hz; exact hz)⟩
def fk (r : Rg) (j : Int) : Nat := 1 + ((kMore j).toNat + 1) + ((pcs r j).length + 1)
def fkFrom (r : Rg) : Nat → Nat
  | 0 => 1
  | d + 1 => fk r (5 - (d + 1 : Nat) : Int) + fkFrom r d
theorem of_l1 (N : List Rg) (i : Nat) (hi : i < 1000000) (r : Rg) (h0 : 0 ≤ r.f0) (h1 : r.f0 ≤ r.f1) (h2 : r.f1 ≤ 1114111) : ∀ (d k : Nat) (out : List (List Rg)), d ≤ 5 → 300 ≤ k → out.length + 27 * d ≤ 900000 →
    seqs_Of.l1 (k + fkFrom r d) out N (N.length : Int) (i : Int) (5 - (d : Nat) : Int) r.f0 r.f1 = seqs_Of.l0 k (out ++ (pcsFrom r d).map oneB) N (N.length : Int) ((i : Int) + 1)
  | 0, k, out, _, hk, _ => by
    show seqs_Of.l1 (k + 1) _ _ _ _ _ _ _ = _
    rw [seqs_Of.l1, if_neg (by omega), wrq (by omega) (by omega)]
    simp [pcsFrom]
  | d + 1, k, out, hd, hk, ho => by
    have hnx := of_l1 N i hi r h0 h1 h2 d k
    rw [fkFrom, pcsFrom]
    generalize hjj : (5 - (d + 1 : Nat) : Int) = j at *
    have hj : 0 ≤ j ∧ j < 5 := by omega
    have hpl := pcs_length r j h0 h2
    have hpg := pcs_good r j hj h0 h2
    unfold fk
    have ek : k + (1 + ((kMore j).toNat + 1) + ((pcs r j).length + 1) + fkFrom r d) = ((k + fkFrom r d) + (pcs r j).length + 1) + (kMore j).toNat + 1 + 1 := by omega
    rw [ek, seqs_Of.l1, if_pos hj.2, if_pos hj.1]
    have eb : ranges_Both.f [(⟨r.f0, r.f1⟩ : Rg)] [⟨kLo j, kHi j⟩] = some (cutK r j) := by
      unfold ranges_Both.f
      rw [if_pos ⟨by simp, by simp⟩]
      exact congrArg some (both_cut r h0 h1 h2 j)
    rw [eb, Option.bind_some, of_l2 N out i j r.f0 r.f1 (cutK r j) (by
      rcases cutK_one r j h0 h2 with e | ⟨x, e, a1, a2, a3, _⟩
      · exact .inl e
      · exact .inr ⟨x, e, a1, a2, a3⟩) (kMore j) (k_more j) _ (by omega)]
    have := of_l3 N i j r.f0 r.f1 hj (pcs r j) (by omega) (fun x hx => ⟨(hpg x hx).low, (hpg x hx).high, (hpg x hx).sz⟩) (pcs r j).length 0 (k + fkFrom r d) out (by omega) (by omega) (by omega)
    rw [List.drop_zero] at this
    show seqs_Of.l3 _ out N _ _ j (pcs r j) ((pcs r j).length : Int) 0 r.f0 r.f1 = _
    rw [show ((0 : Nat) : Int) = 0 from rfl] at this
    rw [this, show j + 1 = (5 - (d : Nat) : Int) by omega, hnx _ (by omega) hk (by rw [List.length_append, List.length_map]; omega), List.map_append, List.append_assoc]
def ofP (l : List Rg) : List Rg := l.flatMap fun r => pcsFrom r 5
def ffN : List Rg → Nat
  | [] => 1
  | r :: t => (1 + fkFrom r 5) + ffN t
theorem pcsFrom_length (r : Rg) (h0 : 0 ≤ r.f0) (h2 : r.f1 ≤ 1114111) : ∀ d, (pcsFrom r d).length ≤ 27 * d
  | 0 => by simp [pcsFrom]
  | d + 1 => by
    have h1 := pcs_length r (5 - (d + 1 : Nat) : Int) h0 h2
    have h3 := pcsFrom_length r h0 h2 d
    rw [pcsFrom, List.length_append]; omega
theorem fkFrom_le (r : Rg) (h0 : 0 ≤ r.f0) (h2 : r.f1 ≤ 1114111) : ∀ d, fkFrom r d ≤ 40 * d + 1
  | 0 => by simp [fkFrom]
  | d + 1 => by
    have h1 := pcs_length r (5 - (d + 1 : Nat) : Int) h0 h2
    have h3 := fkFrom_le r h0 h2 d
    have hk := k_more (5 - (d + 1 : Nat) : Int)
    rw [fkFrom, fk]; omega
theorem ffN_le : ∀ l : List Rg, (∀ r ∈ l, 0 ≤ r.f0 ∧ r.f1 ≤ 1114111) → ffN l ≤ 210 * l.length + 1
  | [], _ => by simp [ffN]
  | r :: t, h => by
    have h1 := h r List.mem_cons_self
    have h2 := fkFrom_le r h1.1 h1.2 5
    have h3 := ffN_le t fun x hx => h x (List.mem_cons_of_mem _ hx)
    rw [ffN, List.length_cons]; omega
theorem of_l0 (N : List Rg) (hN : N.length ≤ 5000) (hr : ∀ r ∈ N, 0 ≤ r.f0 ∧ r.f0 ≤ r.f1 ∧ r.f1 ≤ 1114111) : ∀ (d i k : Nat) (out : List (List Rg)), i + d = N.length → 300 ≤ k → out.length + 135 * d ≤ 700000 →
    seqs_Of.l0 (k + ffN (N.drop i)) out N (N.length : Int) (i : Int) = some (out ++ (ofP (N.drop i)).map oneB)
  | 0, i, k, out, h, hk, _ => by
    rw [List.drop_eq_nil_of_le (by omega)]
    show seqs_Of.l0 (k + 1) _ _ _ _ = _
    rw [seqs_Of.l0, if_neg (by omega)]; simp [ofP]
  | d + 1, i, k, out, h, hk, ho => by
    have hx := hr _ (rd_memq (show i < N.length by omega))
    have hdr := rd_dropq (show i < N.length by omega)
    have hpl := pcsFrom_length (rd_T35 N (i : Int)) hx.1 hx.2.2 5
    have hnx := of_l0 N hN hr d (i + 1) k (out ++ (pcsFrom (rd_T35 N (i : Int)) 5).map oneB) (by omega) hk (by rw [List.length_append, List.length_map]; omega)
    rw [show ((i + 1 : Nat) : Int) = (i : Int) + 1 by omega] at hnx
    rw [hdr, ffN, show k + (1 + fkFrom (rd_T35 N (i : Int)) 5 + ffN (N.drop (i + 1))) = (k + ffN (N.drop (i + 1))) + fkFrom (rd_T35 N (i : Int)) 5 + 1 by omega]
    rw [seqs_Of.l0, if_pos (by omega), if_pos (by omega), if_pos (by omega)]
    unfold seqs_kinds.f
    rw [Option.bind_some]
    have := of_l1 N i (by omega) (rd_T35 N (i : Int)) hx.1 hx.2.1 hx.2.2 5 (k + ffN (N.drop (i + 1))) out (by omega) (by omega) (by omega)
    rw [show (5 - ((5 : Nat) : Int)) = 0 by decide] at this
    rw [this, hnx]
    unfold ofP
    rw [List.flatMap_cons, List.map_append, List.append_assoc]
def piecesOf (l : List Rg) : List Rg := ofP (pickB (hasB l) l)
theorem of_f (l : List Rg) (hl : l.length ≤ 2000) (k : Nat) (hk : 2000000 ≤ k) : seqs_Of.f k l = some ((piecesOf l).map oneB) := by
  unfold seqs_Of.f ranges_Norm.f
  rw [if_pos (by omega), Option.bind_some]
  have hc := (norm_upto l).can
  have hlen := pickB_length (hasB l) l
  unfold piecesOf
  generalize pickB (hasB l) l = N at *
  have hr : ∀ r ∈ N, 0 ≤ r.f0 ∧ r.f0 ≤ r.f1 ∧ r.f1 ≤ 1114111 := fun r hm => hc.mem r hm
  have hf := ffN_le N fun r hm => ⟨(hr r hm).1, (hr r hm).2.2⟩
  have := of_l0 N (by omega) hr N.length 0 (k - ffN N) [] (by omega) (by omega) (by simp; omega)
  rw [List.drop_zero, List.nil_append, Nat.sub_add_cancel (by omega)] at this
  exact this
end Go.Proofs.Ytcdahnkdongmdaa.Pure
