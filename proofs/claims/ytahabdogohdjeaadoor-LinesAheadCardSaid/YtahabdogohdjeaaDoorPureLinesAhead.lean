/- Of the law LinesAhead: for every three lists of bytes and every tab it tells true. -/
import Derived.Test.YtahabdogohdjeaaDoorAllx15
import Derived.Test.YtahabdogohdjeaaDoorNLinesW
namespace Go.Proofs.YtahabdogohdjeaaDoor.Pure
set_option linter.unusedVariables false
set_option linter.unusedSimpArgs false
set_option linter.unnecessarySimpa false
open Go.RowKit Go.Proofs.YtahabdogohdjeaaDoor.All Go.Proofs.YtahabdogohdjeaaDoorW.PrintWords Go.Proofs.YtahabdogohdjeaaDoorW.PrintLast
theorem rd_left (b r : List Int) (j : Nat) (h : j < b.length) : rd (b ++ r) (j : Int) = rd b (j : Int) := by
  simp only [rd, Int.toNat_natCast, List.getD_eq_getElem?_getD, List.getElem?_append_left h]
theorem rd_right (p s : List Int) (j : Nat) : rd (p ++ s) ((p.length + j : Nat) : Int) = rd s (j : Int) := by
  simp only [rd, Int.toNat_natCast, List.getD_eq_getElem?_getD]
  rw [List.getElem?_append_right (by omega), Nat.add_sub_cancel_left]
theorem begN_pre (b r : List Int) : ∀ j, j ≤ b.length → begN (b ++ r) j = begN b j
  | 0, _ => rfl
  | j + 1, h => by
    unfold begN
    rw [rd_left b r j (by omega), begN_pre b r j (by omega)]
theorem cntN_pre (b r : List Int) : ∀ j, j ≤ b.length → cntN (b ++ r) j = cntN b j
  | 0, _ => rfl
  | j + 1, h => by
    unfold cntN
    rw [rd_left b r j (by omega), cntN_pre b r j (by omega)]
theorem begN_off (p s : List Int) (h : begN (p ++ s) p.length = p.length) : ∀ j, begN (p ++ s) (p.length + j) = p.length + begN s j
  | 0 => by simpa [begN] using h
  | j + 1 => by
    rw [← Nat.add_assoc, begN, begN, rd_right, begN_off p s h j]
    split <;> omega
theorem cntN_off (p s : List Int) : ∀ j, cntN (p ++ s) (p.length + j) = cntN (p ++ s) p.length + cntN s j
  | 0 => by simp [cntN]
  | j + 1 => by
    rw [← Nat.add_assoc, cntN, cntN, rd_right, cntN_off p s j]; omega
theorem next_feed (x c : List Int) (hs : Bytes (x ++ 10 :: c)) (hne : x ≠ []) : nextS (x ++ 10 :: c) = nextS x := by
  have hx : Bytes x := fun y hy => hs y (List.mem_append_left _ hy)
  have hxl : 0 < x.length := List.length_pos_iff.mpr hne
  rcases next_cases x hx with ⟨r, h1, h2, h3⟩ | ⟨h1, h3⟩
  · rw [h3]; exact next_scalar hs h1 (h2.trans (List.prefix_append _ _))
  · rw [h3]
    refine next_bad hs fun r hr hp => ?_
    by_cases hl : (putOf r).length ≤ x.length
    · exact h1 r hr (List.prefix_of_prefix_length_le hp (List.prefix_append _ _) hl)
    · obtain ⟨a, t, e, _⟩ := put_head hr
      have ht := put_tail hr a t e
      obtain ⟨u, hu⟩ := hp
      have hlen : (putOf r).length = t.length + 1 := by rw [e]; simp
      have h10 : (putOf r ++ u)[x.length]? = some 10 := by rw [hu, List.getElem?_append_right (Nat.le_refl _)]; simp
      rw [List.getElem?_append_left (by omega), e] at h10
      obtain ⟨n, hn⟩ : ∃ n, x.length = n + 1 := ⟨x.length - 1, by omega⟩
      rw [hn, List.getElem?_cons_succ] at h10
      have := ht 10 (List.mem_of_getElem? h10)
      omega
theorem nextOf_pre (b c : List Int) (hs : Bytes (b ++ 10 :: c)) (i : Int) (h0 : 0 ≤ i) (h1 : i < (b.length : Int)) : nextOf (b ++ 10 :: c) i = nextOf b i := by
  rw [next_in _ i h0 (by simp; omega), next_in b i h0 h1, List.drop_append_of_le_length (by omega)]
  refine next_feed _ c ?_ ?_
  · have := hs.drop i.toNat
    rwa [List.drop_append_of_le_length (by omega)] at this
  · intro e
    have := List.drop_eq_nil_iff.mp e
    omega
theorem nextOf_off (p s : List Int) (i : Int) (h0 : 0 ≤ i) (h1 : i < (s.length : Int)) : nextOf (p ++ s) ((p.length : Int) + i) = nextOf s i := by
  rw [next_in _ _ (by omega) (by simp; omega), next_in s i h0 h1]
  have e : ((p.length : Int) + i).toNat = p.length + i.toNat := by omega
  rw [e, List.drop_append, List.drop_eq_nil_of_le (by omega), List.nil_append, Nat.add_sub_cancel_left]
theorem colF_pre (b c : List Int) (hs : Bytes (b ++ 10 :: c)) (a tab : Int) (ha : a ≤ (b.length : Int)) : ∀ (d : Nat) (col i : Int), 0 ≤ i → colF d (b ++ 10 :: c) a tab col i = colF d b a tab col i
  | 0, _, _, _ => rfl
  | d + 1, col, i, h0 => by
    unfold colF
    by_cases h : i < a
    · have hb : Bytes b := fun y hy => hs y (List.mem_append_left _ hy)
      have hn := next_n b hb i h0 (by omega)
      have hr := rd_left b (10 :: c) i.toNat (by omega)
      rw [show ((i.toNat : Nat) : Int) = i by omega] at hr
      have es : stepC (b ++ 10 :: c) tab col i = stepC b tab col i := by unfold stepC; rw [hr]
      rw [if_pos h, if_pos h, nextOf_pre b c hs i h0 (by omega), es, colF_pre b c hs a tab ha d _ _ (by omega)]
    · rw [if_neg h, if_neg h]
theorem colF_off (p s : List Int) (hs : Bytes s) (a tab : Int) (ha : a ≤ (s.length : Int)) : ∀ (d : Nat) (col i : Int), 0 ≤ i → colF d (p ++ s) ((p.length : Int) + a) tab col ((p.length : Int) + i) = colF d s a tab col i
  | 0, _, _, _ => rfl
  | d + 1, col, i, h0 => by
    unfold colF
    by_cases h : i < a
    · have hn := next_n s hs i h0 (by omega)
      have hr := rd_right p s i.toNat
      rw [show ((p.length + i.toNat : Nat) : Int) = (p.length : Int) + i by omega, show ((i.toNat : Nat) : Int) = i by omega] at hr
      have es : stepC (p ++ s) tab col ((p.length : Int) + i) = stepC s tab col i := by unfold stepC; rw [hr]
      rw [if_pos (by omega), if_pos h, nextOf_off p s i h0 (by omega), es]
      by_cases h2 : i + (nextOf s i).2 > a
      · rw [if_pos (by omega), if_pos h2]
      · rw [if_neg (by omega), if_neg h2, show (p.length : Int) + i + (nextOf s i).2 = (p.length : Int) + (i + (nextOf s i).2) by omega, colF_off p s hs a tab ha d _ _ (by omega)]
    · rw [if_neg (by omega), if_neg h]
theorem ahead_law (a b c : List Int) (tab : Int) (hsa : Bytes a) (hsb : Bytes b) (hsc : Bytes c) (c1 : a.length ≤ 100) (c2 : b.length ≤ 100) (c3 : c.length ≤ 100) (c4 : 1 ≤ tab) (c5 : tab ≤ 16) (k : Nat) (hk : 900 ≤ k) :
    exegetelaw04_LinesAhead.j0 (k + 1) a b c tab true false = some true := by
  have hl1 : (a ++ [10]).length = a.length + 1 := by simp
  have hl2 : (a ++ [10] ++ b).length = a.length + 1 + b.length := by simp; omega
  have hl3 : (a ++ [10] ++ b ++ [10]).length = a.length + 1 + b.length + 1 := by simp; omega
  have q1 : ([] : List Int).length + a.length < 140737488355328 := by rw [List.length_nil]; omega
  have e0 : ([] : List Int) ++ a = a := rfl
  have q2 : (([] : List Int) ++ a).length < 140737488355328 := by rw [e0]; omega
  have q3 : (([] : List Int) ++ a ++ [10]).length + b.length < 140737488355328 := by rw [e0]; omega
  have q4 : (([] : List Int) ++ a ++ [10] ++ b).length < 140737488355328 := by rw [e0]; omega
  have q5 : (([] : List Int) ++ a ++ [10] ++ b ++ [10]).length + c.length < 140737488355328 := by rw [e0]; omega
  unfold exegetelaw04_LinesAhead.j0
  dsimp only
  rw [if_neg Bool.false_ne_true, if_pos q1, Option.bind_some, if_pos q2, Option.bind_some, if_pos q3, Option.bind_some, if_pos q4, Option.bind_some, if_pos q5, Option.bind_some, e0]
  clear q1 q2 q3 q4 q5 e0
  have eX : a ++ [10] ++ b ++ [10] ++ c = (a ++ [10]) ++ (b ++ 10 :: c) := by simp
  have hlX : (a ++ [10] ++ b ++ [10] ++ c).length = a.length + 1 + b.length + 1 + c.length := by simp; omega
  have h10 : Bytes [10] := fun x hx => by simp at hx; omega
  have hsbc : Bytes (b ++ 10 :: c) := by
    have := hsb.append (h10.append hsc)
    simpa using this
  have hsX : Bytes (a ++ [10] ++ b ++ [10] ++ c) := by rw [eX]; exact (hsa.append h10).append hsbc
  rw [wrap_in ((a.length : Int) + 1) (by omega) (by omega), wrap_in ((a.length : Int) + 1 + (b.length : Int)) (by omega) (by omega)]
  rw [col_f _ hsX (by omega) k (by omega), if_pos ⟨⟨by omega, by omega⟩, by omega, by omega⟩, col_f b hsb (by omega) k (by omega), if_pos ⟨⟨by omega, by omega⟩, by omega, by omega⟩]
  simp only [Option.bind_some]
  have hp : begN ((a ++ [10]) ++ (b ++ 10 :: c)) (a ++ [10]).length = (a ++ [10]).length := by
    have hr : rd ((a ++ [10]) ++ (b ++ 10 :: c)) (a.length : Int) = 10 := by
      rw [rd_left _ _ _ (by omega)]
      simp [rd]
    rw [hl1, begN, if_pos hr]
  have hat : ((a.length : Int) + 1 + (b.length : Int)).toNat = (a ++ [10]).length + b.length := by omega
  have hcol : colOf (a ++ [10] ++ b ++ [10] ++ c) ((a.length : Int) + 1 + (b.length : Int)) tab = colOf b (b.length : Int) tab := by
    unfold colOf
    rw [eX, hat, begN_off _ _ hp, begN_pre b (10 :: c) b.length (Nat.le_refl _)]
    have hb := begN_le b b.length
    rw [show (a.length : Int) + 1 + (b.length : Int) = ((a ++ [10]).length : Int) + (b.length : Int) by omega, Int.natCast_add]
    rw [colF_off _ _ hsbc (b.length : Int) tab (by simp; omega) _ _ _ (by omega), colF_pre b c hsbc _ tab (Int.le_refl _) _ _ _ (by omega), Int.toNat_natCast]
    exact colF_fuel b hsb (b.length : Int) tab (Int.le_refl _) _ _ _ _ (by omega) (by omega) (by omega)
  rw [if_pos hcol, line_f, if_pos ⟨by omega, by omega⟩, line_f, if_pos ⟨by omega, by omega⟩, line_f, if_pos ⟨by omega, by omega⟩]
  simp only [Option.bind_some, Int.toNat_natCast]
  have hca := cntN_le a a.length
  have hcb := cntN_le b b.length
  have hcn : cntN (a ++ [10] ++ b ++ [10] ++ c) ((a.length : Int) + 1 + (b.length : Int)).toNat = cntN a a.length + 1 + cntN b b.length := by
    rw [eX, hat, cntN_off, cntN_pre b (10 :: c) b.length (Nat.le_refl _), hl1, cntN]
    have hr : rd ((a ++ [10]) ++ (b ++ 10 :: c)) (a.length : Int) = 10 := by
      rw [rd_left _ _ _ (by omega)]
      simp [rd]
    rw [if_pos hr, List.append_assoc, cntN_pre a _ a.length (Nat.le_refl _)]
  rw [hcn, wrap_in ((cntN a a.length : Int) + 1) (by omega) (by omega), wrap_in _ (by omega) (by omega)]
  simp
theorem LinesAhead : exegetelaw04_LinesAhead.Pure := by
  intro a b c tab hma _ hwa hmb _ hwb hmc _ hwc ht
  have hsa := Bytes.of_wf hwa
  have hsb := Bytes.of_wf hwb
  have hsc := Bytes.of_wf hwc
  refine ⟨1000, ?_⟩
  unfold exegetelaw04_LinesAhead.f
  rw [awake_f 1000 (by omega)]
  simp only [Option.bind_some, if_true]
  by_cases c1 : (a.length : Int) > 100
  · rw [if_pos c1]; simp [exegetelaw04_LinesAhead.j0]
  · rw [if_neg c1]
    by_cases c2 : (b.length : Int) > 100
    · rw [if_pos c2]; simp [exegetelaw04_LinesAhead.j0]
    · rw [if_neg c2]
      by_cases c3 : (c.length : Int) > 100
      · rw [if_pos c3]; simp [exegetelaw04_LinesAhead.j0]
      · rw [if_neg c3]
        by_cases c4 : tab < 1
        · rw [if_pos c4]; simp [exegetelaw04_LinesAhead.j0]
        · rw [if_neg c4]
          by_cases c5 : tab > 16
          · rw [decide_eq_true c5]; simp [exegetelaw04_LinesAhead.j0]
          · rw [decide_eq_false c5]
            exact ahead_law a b c tab hsa hsb hsc (by omega) (by omega) (by omega) (by omega) (by omega) 999 (by omega)
end Go.Proofs.YtahabdogohdjeaaDoor.Pure
