/- Texts of the claim TermTells, merged, without what it does not use. -/
import Derived.Test.YtcdahnkdongmdaaZTermTellsX9
import Derived.Test.YtcdahnkdongmdaaZTermTellsN7
namespace Go.Proofs.Ytcdahnkdongmdaa.Pure
set_option linter.unusedVariables false
set_option linter.unusedSimpArgs false
set_option linter.unnecessarySimpa false
open Go.RowKit Go.Proofs.Ytcdahnkdongmdaa.All Go.Proofs.YtcdahnkdongmdaaW.PrintWords Go.Proofs.YtcdahnkdongmdaaW.PrintLast
open Own
theorem nextq_in (l : List Int) (a : Int) (h0 : 0 ≤ a) (h1 : a < (l.length : Int)) : nextOf l a = nextS (l.drop a.toNat) := by
  unfold nextOf; rw [if_neg (by omega), if_neg (by omega)]
theorem nextq_out (l : List Int) (a : Int) (h : a < 0 ∨ (l.length : Int) ≤ a) : nextOf l a = (-1, 0) := by
  unfold nextOf
  by_cases c : a < 0
  · rw [if_pos c]
  · rw [if_neg c, if_pos (by omega)]
theorem pcs_has (r : Rg) (j : Int) (hj : 0 ≤ j ∧ j < 5) (h0 : 0 ≤ r.f0) (h2 : r.f1 ≤ 1114111) :
    (∀ v, hasB (pcs r j) v = true ↔ (r.f0 ≤ v ∧ v ≤ r.f1) ∧ (kLo j ≤ v ∧ v ≤ kHi j)) ∧ Asc (mxq r.f0 (kLo j)) (pcs r j) ∧ ∀ z ∈ pcs r j, z.f1 ≤ kHi j ∧ z.f1 ≤ r.f1 := by
  have m1 := (mq r.f0 (kLo j)).1
  have m2 := (mq r.f1 (kHi j)).2
  have hk := k_in j
  unfold pcs cutK
  by_cases c : mxq r.f0 (kLo j) ≤ mnq r.f1 (kHi j)
  · rw [if_pos c, splL_one]
    obtain ⟨s1, _⟩ := splB_spec (kMore j) (k_more j) ⟨mxq r.f0 (kLo j), mnq r.f1 (kHi j)⟩ c (by show 0 ≤ mxq _ _; omega)
    refine ⟨fun v => ?_, s1.asc, fun z hz => ?_⟩
    · rw [s1.has, inR_iff]
      show (mxq r.f0 (kLo j) ≤ v ∧ v ≤ mnq r.f1 (kHi j)) ↔ _
      omega
    · have : z.f1 ≤ mnq r.f1 (kHi j) := s1.top z hz
      omega
  · rw [if_neg c, splL_nil]
    refine ⟨fun v => ?_, trivial, fun z hz => by cases hz⟩
    rw [hasB_nil]
    constructor
    · intro h; cases h
    · rintro ⟨⟨a, b⟩, a', b'⟩; omega
theorem k_next {j : Int} (hj : 0 ≤ j ∧ j < 4) : kHi j < kLo (j + 1) := by
  obtain rfl | rfl | rfl | rfl : j = 0 ∨ j = 1 ∨ j = 2 ∨ j = 3 := by omega
  all_goals (unfold kLo kHi; decide)
theorem pcsFrom_asc (r : Rg) (h0 : 0 ≤ r.f0) (h2 : r.f1 ≤ 1114111) : ∀ d : Nat, d ≤ 5 → Asc (mxq r.f0 (kLo (5 - d))) (pcsFrom r d) ∧ ∀ z ∈ pcsFrom r d, z.f1 ≤ r.f1 ∧ Good z
  | 0, _ => ⟨trivial, fun z hz => by cases hz⟩
  | d + 1, hd => by
    obtain ⟨a1, a2⟩ := pcsFrom_asc r h0 h2 d (by omega)
    have hj : 0 ≤ (5 - ((d + 1 : Nat) : Int)) ∧ (5 - ((d + 1 : Nat) : Int)) < 5 := by omega
    obtain ⟨_, b2, b3⟩ := pcs_has r _ hj h0 h2
    have hg := pcs_good r _ hj h0 h2
    rw [pcsFrom]
    refine ⟨?_, fun z hz => ?_⟩
    · by_cases h : d = 0
      · subst h
        rw [pcsFrom, List.append_nil]; exact b2
      · have hn := k_next (j := 5 - ((d + 1 : Nat) : Int)) (by omega)
        rw [show (5 - ((d + 1 : Nat) : Int)) + 1 = 5 - (d : Int) by omega] at hn
        have m1 := (mq r.f0 (kLo (5 - (d : Int)))).1
        have m2 := (mq r.f0 (kLo (5 - ((d + 1 : Nat) : Int)))).1
        have hk := k_in (5 - ((d + 1 : Nat) : Int))
        exact Asc.append b2 (fun x hx => by have := (b3 x hx).1; omega) (by omega) a1
    · rcases List.mem_append.mp hz with hz | hz
      · exact ⟨(b3 z hz).2, hg z hz⟩
      · exact a2 z hz
theorem pcsFrom_has (r : Rg) (h0 : 0 ≤ r.f0) (h2 : r.f1 ≤ 1114111) (v : Int) : hasB (pcsFrom r 5) v = (inR r v && All.mayB v) := by
  have h := fun j hj => (pcs_has r j hj h0 h2).1 v
  have e : pcsFrom r 5 = pcs r 0 ++ (pcs r 1 ++ (pcs r 2 ++ (pcs r 3 ++ (pcs r 4 ++ [])))) := rfl
  rw [e, Bool.eq_iff_iff, hasB_append, hasB_append, hasB_append, hasB_append, hasB_append, hasB_nil, Bool.or_false, Bool.or_eq_true, Bool.or_eq_true, Bool.or_eq_true, Bool.or_eq_true, h 0 (by decide), h 1 (by decide), h 2 (by decide), h 3 (by decide), h 4 (by decide), Bool.and_eq_true, inR_iff, All.mayB_iff]
  have k0 : kLo 0 = 0 ∧ kHi 0 = 127 := ⟨rfl, rfl⟩
  have k1 : kLo 1 = 128 ∧ kHi 1 = 2047 := ⟨rfl, rfl⟩
  have k2 : kLo 2 = 2048 ∧ kHi 2 = 55295 := ⟨rfl, rfl⟩
  have k3 : kLo 3 = 57344 ∧ kHi 3 = 65535 := ⟨rfl, rfl⟩
  have k4 : kLo 4 = 65536 ∧ kHi 4 = 1114111 := ⟨rfl, rfl⟩
  rw [k0.1, k0.2, k1.1, k1.2, k2.1, k2.2, k3.1, k3.2, k4.1, k4.2]
  constructor
  · intro h; omega
  · intro h; omega
theorem ofP_spec : ∀ (N : List Rg) (lo : Int), Canon lo N → 0 ≤ lo → Asc lo (ofP N) ∧ (∀ z ∈ ofP N, Good z) ∧ ∀ v, hasB (ofP N) v = (hasB N v && All.mayB v)
  | [], lo, _, _ => ⟨trivial, (fun z hz => by cases hz), fun v => rfl⟩
  | r :: t, lo, ⟨h1, h2, h3, h4⟩, h0 => by
    obtain ⟨a1, a2, a3⟩ := ofP_spec t (r.f1 + 2) h4 (by omega)
    obtain ⟨b1, b2⟩ := pcsFrom_asc r (by omega) h3 5 (Nat.le_refl _)
    have m1 := (mq r.f0 (kLo (5 - ((5 : Nat) : Int)))).1
    have e : ofP (r :: t) = pcsFrom r 5 ++ ofP t := by unfold ofP; rw [List.flatMap_cons]
    rw [e]
    refine ⟨Asc.append (b1.weaken (by omega)) (fun x hx => by have := (b2 x hx).1; show x.f1 < r.f1 + 2; omega) (by omega) a1, fun z hz => ?_, fun v => ?_⟩
    · rcases List.mem_append.mp hz with hz | hz
      · exact (b2 z hz).2
      · exact a2 z hz
    · rw [hasB_append, pcsFrom_has r (by omega) h3, a3, hasB_cons]
      cases inR r v <;> cases hasB t v <;> cases All.mayB v <;> rfl
theorem pieces_good (l : List Rg) : ∀ z ∈ piecesOf l, Good z := (ofP_spec _ 0 (norm_upto l).can (Int.le_refl _)).2.1
theorem pieces_has (l : List Rg) (v : Int) : hasB (piecesOf l) v = (hasB l v && All.mayB v) := by
  unfold piecesOf
  rw [(ofP_spec _ 0 (norm_upto l).can (Int.le_refl _)).2.2 v]
  cases hm : All.mayB v with
  | false => rw [Bool.and_false, Bool.and_false]
  | true =>
    have := (All.mayB_iff v).mp hm
    rw [(norm_upto l).at (by omega) (by omega)]
theorem fits_le : ∀ (s : List Rg) (p : List Int), fitsB s p ≤ s.length ∧ fitsB s p ≤ p.length
  | [], p => ⟨Nat.le_refl _, by cases p <;> simp [fitsB]⟩
  | r :: s, [] => by simp [fitsB]
  | r :: s, c :: p => by
    have := fits_le s p
    rw [fitsB]
    split <;> simp <;> omega
theorem fits_full : ∀ (s : List Rg) (p : List Int), Bytes p → (fitsB s p = s.length ↔ ∃ q, q <+: p ∧ acc s q = true)
  | [], p, _ => by
    constructor
    · intro _; exact ⟨[], List.nil_prefix, rfl⟩
    · intro _; cases p <;> rfl
  | r :: s, [], _ => by
    constructor
    · intro h; simp [fitsB] at h
    · rintro ⟨q, h1, h2⟩
      rw [List.prefix_nil.mp h1] at h2; cases h2
  | r :: s, c :: p, hb => by
    have hc := hb c List.mem_cons_self
    have ih := fits_full s p fun x hx => hb x (List.mem_cons_of_mem _ hx)
    rw [fitsB, wrq (by omega) (by omega)]
    by_cases h : r.f0 ≤ c ∧ c ≤ r.f1
    · rw [if_pos h, List.length_cons]
      constructor
      · intro h1
        obtain ⟨q, h2, h3⟩ := ih.mp (by omega)
        exact ⟨c :: q, List.prefix_cons_inj c |>.mpr h2, by rw [acc, h3, (inR_iff r c).mpr h]; rfl⟩
      · rintro ⟨q, h2, h3⟩
        match q, h2, h3 with
        | d :: q, h2, h3 =>
          obtain ⟨hd, hq⟩ := List.cons_prefix_cons.mp h2
          subst hd
          rw [acc, Bool.and_eq_true] at h3
          have := ih.mpr ⟨q, hq, h3.2⟩
          omega
    · rw [if_neg h, List.length_cons]
      constructor
      · intro h1; omega
      · rintro ⟨q, h2, h3⟩
        match q, h2, h3 with
        | d :: q, h2, h3 =>
          obtain ⟨rfl, h2⟩ := List.cons_prefix_cons.mp h2
          rw [acc, Bool.and_eq_true, inR_iff] at h3
          exact absurd h3.1 h
theorem one_length {x : Rg} (h : Good x) {v : Int} (h0 : x.f0 ≤ v) (h1 : v ≤ x.f1) : (oneB x).length = (putOf v).length := acc_length ((h.acc_iff (putOf v)).mpr ⟨v, h0, h1, rfl⟩)
theorem one_fits {x : Rg} (h : Good x) (p : List Int) (hb : Bytes p) : fitsB (oneB x) p = (oneB x).length ↔ ∃ v, x.f0 ≤ v ∧ v ≤ x.f1 ∧ putOf v <+: p := by
  rw [fits_full _ _ hb]
  constructor
  · rintro ⟨q, h1, h2⟩
    obtain ⟨v, h3, h4, rfl⟩ := (h.acc_iff q).mp h2
    exact ⟨v, h3, h4, h1⟩
  · rintro ⟨v, h3, h4, h1⟩
    exact ⟨putOf v, h1, (h.acc_iff _).mpr ⟨v, h3, h4, rfl⟩⟩
def mtch : List (List Rg) → List Int → Int
  | [], _ => 0
  | s :: t, p => if fitsB s p = s.length then (s.length : Int) else mtch t p
theorem mtch_no : ∀ (ps : List Rg), (∀ z ∈ ps, Good z) → ∀ p, Bytes p → (∀ v, hasB ps v = true → ¬ putOf v <+: p) → mtch (ps.map oneB) p = 0
  | [], _, p, _, _ => rfl
  | x :: t, hg, p, hb, h => by
    have hx := hg x List.mem_cons_self
    rw [List.map_cons, mtch, if_neg fun hf => by
      obtain ⟨v, h1, h2, h3⟩ := (one_fits hx p hb).mp hf
      exact h v (mem_hasB List.mem_cons_self h1 h2) h3]
    exact mtch_no t (fun z hz => hg z (List.mem_cons_of_mem _ hz)) p hb fun v hv => h v (by rw [hasB_cons, hv, Bool.or_true])
theorem mtch_yes : ∀ (ps : List Rg), (∀ z ∈ ps, Good z) → ∀ p, Bytes p → ∀ v, hasB ps v = true → putOf v <+: p → mtch (ps.map oneB) p = szOf v
  | [], _, p, _, v, h, _ => by rw [hasB_nil] at h; cases h
  | x :: t, hg, p, hb, v, h, hp => by
    have hx := hg x List.mem_cons_self
    have hgm : ∀ w, hasB (x :: t) w = true → All.mayB w = true := fun w hw => by
      obtain ⟨z, hz, h1, h2⟩ := hasB_mem hw
      exact (hg z hz).may h1 h2
    rw [List.map_cons, mtch]
    by_cases hf : fitsB (oneB x) p = (oneB x).length
    · rw [if_pos hf]
      obtain ⟨w, h1, h2, h3⟩ := (one_fits hx p hb).mp hf
      have e : w = v := put_prefix (hx.may h1 h2) (hgm v h) h3 hp
      subst e
      rw [one_length hx h1 h2]
      exact put_len w
    · rw [if_neg hf]
      rw [hasB_cons, Bool.or_eq_true] at h
      rcases h with h | h
      · have h1 := (inR_iff x v).mp h
        exact absurd ((one_fits hx p hb).mpr ⟨v, h1.1, h1.2, hp⟩) hf
      · exact mtch_yes t (fun z hz => hg z (List.mem_cons_of_mem _ hz)) p hb v h hp
theorem rd_L2_drop {L : List (List Rg)} {i : Nat} (h : i < L.length) : L.drop i = rd_L2 L (i : Int) :: L.drop (i + 1) := by
  rw [List.drop_eq_getElem_cons h]
  simp [rd_L2, List.getD_eq_getElem?_getD, List.getElem?_eq_getElem h]
theorem match_l0 (L : List (List Rg)) (hL : L.length ≤ 1000000) (b : List Int) (a : Int) (h0 : 0 ≤ a) (h1 : a ≤ (b.length : Int)) : ∀ (d k i : Nat), i + d = L.length → d < k →
    seqs_Match.l0 k b a L (L.length : Int) (i : Int) = some (mtch (L.drop i) (b.drop a.toNat))
  | d, 0, i, _, h => by omega
  | 0, k + 1, i, h, _ => by
    rw [seqs_Match.l0, if_neg (by omega), List.drop_eq_nil_of_le (by omega)]; rfl
  | d + 1, k + 1, i, h, hk => by
    have hnx := match_l0 L hL b a h0 h1 d k (i + 1) (by omega) (by omega)
    rw [show ((i + 1 : Nat) : Int) = (i : Int) + 1 by omega] at hnx
    rw [seqs_Match.l0, if_pos (by omega), if_pos (by omega), if_pos (by omega), if_pos h0, if_pos h1, wrq (by omega) (by omega), hnx, rd_L2_drop (show i < L.length by omega), mtch]
    unfold seqs_fits.f
    rw [Option.bind_some]
    by_cases c : fitsB (rd_L2 L (i : Int)) (b.drop a.toNat) = (rd_L2 L (i : Int)).length
    · rw [if_pos (by rw [c]), if_pos c, c]
    · rw [if_neg (by omega), if_neg c]
theorem match_f (L : List (List Rg)) (hL : L.length ≤ 1000000) (b : List Int) (a : Int) (k : Nat) (hk : L.length + 2 ≤ k) :
    seqs_Match.f k L b a = some (if 0 ≤ a ∧ a ≤ (b.length : Int) then mtch L (b.drop a.toNat) else 0) := by
  unfold seqs_Match.f
  obtain ⟨k', rfl⟩ : ∃ k', k = k' + 1 := ⟨k - 1, by omega⟩
  by_cases c : a < 0
  · rw [if_pos c, if_neg (by omega), seqs_Match.j0, if_pos rfl]
  · rw [if_neg c]
    by_cases c2 : a > (b.length : Int)
    · rw [decide_eq_true c2, if_neg (by omega), seqs_Match.j0, if_pos rfl]
    · rw [decide_eq_false c2, if_pos (by omega), seqs_Match.j0, if_neg (by decide)]
      have := match_l0 L hL b a (by omega) (by omega) L.length k' 0 (by omega) (by omega)
      rw [List.drop_zero] at this
      exact this
theorem pieces_length (l : List Rg) (hl : l.length ≤ 2000) : (piecesOf l).length ≤ 700000 := by
  have hlen := pickB_length (hasB l) l
  have hc := (norm_upto l).can
  unfold piecesOf
  generalize pickB (hasB l) l = N at *
  have hb : ∀ (N : List Rg) (lo : Int), Canon lo N → 0 ≤ lo → (ofP N).length ≤ 135 * N.length := by
    intro N
    induction N with
    | nil => intro lo _ _; simp [ofP]
    | cons r t ih =>
      rintro lo ⟨h1, h2, h3, h4⟩ h0
      have e : ofP (r :: t) = pcsFrom r 5 ++ ofP t := by unfold ofP; rw [List.flatMap_cons]
      have h5 := pcsFrom_length r (by omega) h3 5
      have h6 := ih _ h4 (by omega)
      rw [e, List.length_append, List.length_cons]; omega
  have := hb N 0 hc (Int.le_refl _)
  omega
def setM (l : List Rg) (b : List Int) (a : Int) : Int := if 0 ≤ a ∧ a ≤ (b.length : Int) then mtch ((piecesOf l).map oneB) (b.drop a.toNat) else 0
theorem setM_f (l : List Rg) (hl : l.length ≤ 2000) (b : List Int) (a : Int) (k : Nat) (hk : 2000000 ≤ k) : seqs_Match.f k ((piecesOf l).map oneB) b a = some (setM l b a) := by
  have := pieces_length l hl
  exact match_f _ (by rw [List.length_map]; omega) b a k (by rw [List.length_map]; omega)
theorem setM_out (l : List Rg) (b : List Int) (hb : Bytes b) (a : Int) (h : a < 0 ∨ (b.length : Int) ≤ a) : setM l b a = 0 := by
  unfold setM
  by_cases c : 0 ≤ a ∧ a ≤ (b.length : Int)
  · rw [if_pos c]
    refine mtch_no _ (pieces_good l) _ (hb.drop _) fun v _ hp => ?_
    rw [List.drop_eq_nil_of_le (by omega)] at hp
    exact put_ne v (List.prefix_nil.mp hp)
  · rw [if_neg c]
theorem setM_no (l : List Rg) (b : List Int) (hb : Bytes b) (a : Int) (h : ∀ v, All.mayB v = true → hasB l v = true → ¬ putOf v <+: b.drop a.toNat) : setM l b a = 0 := by
  unfold setM
  by_cases c : 0 ≤ a ∧ a ≤ (b.length : Int)
  · rw [if_pos c]
    refine mtch_no _ (pieces_good l) _ (hb.drop _) fun v hv hp => ?_
    rw [pieces_has, Bool.and_eq_true] at hv
    exact h v hv.2 hv.1 hp
  · rw [if_neg c]
theorem setM_yes (l : List Rg) (b : List Int) (hb : Bytes b) (a : Int) (h0 : 0 ≤ a) (h1 : a ≤ (b.length : Int)) (v : Int) (hm : All.mayB v = true) (hv : hasB l v = true) (hp : putOf v <+: b.drop a.toNat) : setM l b a = szOf v := by
  unfold setM
  rw [if_pos ⟨h0, h1⟩]
  exact mtch_yes _ (pieces_good l) _ (hb.drop _) v (by rw [pieces_has, hv, hm]; rfl) hp
theorem setM_next (l : List Rg) (b : List Int) (hb : Bytes b) (a : Int) : setM l b a = if 0 ≤ (nextOf b a).1 ∧ hasB l (nextOf b a).1 = true then (nextOf b a).2 else 0 := by
  by_cases c : a < 0 ∨ (b.length : Int) ≤ a
  · rw [setM_out l b hb a c, nextq_out b a c, if_neg (by simp)]
  · have h0 : 0 ≤ a := by omega
    have h1 : a < (b.length : Int) := by omega
    rw [nextq_in b a h0 h1]
    rcases next_cases _ (hb.drop a.toNat) with ⟨r, hr, hp, e⟩ | ⟨hno, e⟩
    · rw [e]
      have := (All.mayB_iff r).mp hr
      by_cases cl : hasB l r = true
      · rw [if_pos ⟨by show 0 ≤ r; omega, cl⟩, setM_yes l b hb a h0 (by omega) r hr cl hp]
      · rw [if_neg fun h => cl h.2]
        refine setM_no l b hb a fun v hv hl hp2 => cl ?_
        rw [← put_prefix hv hr hp2 hp]; exact hl
    · rw [e, if_neg (by simp)]
      exact setM_no l b hb a fun v hv _ => hno v hv
end Go.Proofs.Ytcdahnkdongmdaa.Pure
