/- Of the law SeqsBytes: for every list of ranges it tells true. -/
import Derived.Test.YtcdahnkdongmdaaAllx10
import Derived.Test.YtcdahnkdongmdaaAllx8
import Derived.Test.YtcdahnkdongmdaaNSeqsW
namespace Go.Proofs.Ytcdahnkdongmdaa.Pure
set_option linter.unusedVariables false
set_option linter.unusedSimpArgs false
set_option linter.unnecessarySimpa false
open Go.RowKit Go.Proofs.Ytcdahnkdongmdaa.All Go.Proofs.YtcdahnkdongmdaaW.PrintWords Go.Proofs.YtcdahnkdongmdaaW.PrintLast
open Own
def prodB : List Rg → Int
  | [] => 1
  | r :: t => (r.f1 - r.f0 + 1) * prodB t
theorem levp {f0 f1 : Int} (al : f0 / 64 = f1 / 64 ∨ (f0 % 64 = 0 ∧ f1 % 64 = 63)) : (f1 / 64 - f0 / 64 + 1) * (f1 % 64 - f0 % 64 + 1) = f1 - f0 + 1 := by
  rcases al with al | ⟨al1, al2⟩
  · rw [show f1 / 64 - f0 / 64 + 1 = 1 by omega, Int.one_mul]; omega
  · rw [show f1 % 64 - f0 % 64 + 1 = 64 by omega]; omega
theorem one_ok {x : Rg} (h : Good x) : (∀ r ∈ oneB x, 0 ≤ r.f0 ∧ r.f0 ≤ r.f1 ∧ r.f1 ≤ 255) ∧ 1 ≤ (oneB x).length ∧ (oneB x).length ≤ 4 ∧ prodB (oneB x) = x.f1 - x.f0 + 1 := by
  have hl := (All.mayB_iff _).mp h.low
  have hh := (All.mayB_iff _).mp h.high
  have hle := h.le
  have al1 := h.a1
  have al2 := h.a2
  have al3 := h.a3
  unfold oneB
  rcases sz_cases h.sz with ⟨c1, c2⟩ | ⟨c1, c2, c3, c4⟩ | ⟨c1, c2, c3, c4⟩ | ⟨c1, c2⟩
  · rw [put1 c1, put1 c2]
    refine ⟨fun r hr => ?_, by simp, by simp, ?_⟩
    · rcases List.mem_singleton.mp hr with rfl
      show 0 ≤ x.f0 ∧ x.f0 ≤ x.f1 ∧ x.f1 ≤ 255
      omega
    · show (x.f1 - x.f0 + 1) * 1 = _
      omega
  · rw [put2 c1 c2, put2 c3 c4]
    have q1 : x.f0 / 64 = x.f1 / 64 ∨ (x.f0 % 64 = 0 ∧ x.f1 % 64 = 63) := al1 (by omega)
    clear al1 al2 al3
    refine ⟨fun r hr => ?_, by simp, by simp, ?_⟩
    · simp only [List.zipWith_cons_cons, List.zipWith_nil_right, List.mem_cons, List.not_mem_nil, or_false] at hr
      rcases hr with rfl | rfl <;> simp only <;> omega
    · show (192 + x.f1 / 64 - (192 + x.f0 / 64) + 1) * ((128 + x.f1 % 64 - (128 + x.f0 % 64) + 1) * 1) = _
      rw [Int.mul_one, ← levp q1]
      congr 1 <;> omega
  · rw [put3 c1 c2, put3 c3 c4]
    have q1 : x.f0 / 64 = x.f1 / 64 ∨ (x.f0 % 64 = 0 ∧ x.f1 % 64 = 63) := al1 (by omega)
    have q2 := al_up (b := 64) (.inl rfl) (al2 (by omega))
    clear al1 al2 al3
    refine ⟨fun r hr => ?_, by simp, by simp, ?_⟩
    · simp only [List.zipWith_cons_cons, List.zipWith_nil_right, List.mem_cons, List.not_mem_nil, or_false] at hr
      rcases hr with rfl | rfl | rfl <;> simp only [d4096] <;> omega
    · show (224 + x.f1 / 4096 - (224 + x.f0 / 4096) + 1) * ((128 + x.f1 / 64 % 64 - (128 + x.f0 / 64 % 64) + 1) * ((128 + x.f1 % 64 - (128 + x.f0 % 64) + 1) * 1)) = _
      rw [Int.mul_one, ← levp q1, ← levp q2, d4096, d4096, Int.mul_assoc]
      congr 1
      · omega
      · congr 1 <;> omega
  · rw [put4 c1, put4 c2]
    have q1 : x.f0 / 64 = x.f1 / 64 ∨ (x.f0 % 64 = 0 ∧ x.f1 % 64 = 63) := al1 (by omega)
    have q2 := al_up (b := 64) (.inl rfl) (al2 (by omega))
    have q3 := al_up (b := 64) (.inl rfl) (al_up (b := 4096) (.inr rfl) (al3 (by omega)))
    clear al1 al2 al3
    refine ⟨fun r hr => ?_, by simp, by simp, ?_⟩
    · simp only [List.zipWith_cons_cons, List.zipWith_nil_right, List.mem_cons, List.not_mem_nil, or_false] at hr
      rcases hr with rfl | rfl | rfl | rfl <;> simp only [d4096, d262144] <;> omega
    · show (240 + x.f1 / 262144 - (240 + x.f0 / 262144) + 1) * ((128 + x.f1 / 4096 % 64 - (128 + x.f0 / 4096 % 64) + 1) * ((128 + x.f1 / 64 % 64 - (128 + x.f0 / 64 % 64) + 1) * ((128 + x.f1 % 64 - (128 + x.f0 % 64) + 1) * 1))) = _
      rw [Int.mul_one, ← levp q1, ← levp q2, ← levp q3, d4096, d4096, d262144, d262144, Int.mul_assoc, Int.mul_assoc]
      congr 1
      · omega
      · congr 1
        · omega
        · congr 1 <;> omega
theorem prod_pos : ∀ s : List Rg, (∀ r ∈ s, r.f0 ≤ r.f1) → 1 ≤ prodB s
  | [], _ => Int.le_refl _
  | r :: t, h => by
    have h1 := h r List.mem_cons_self
    have h2 := prod_pos t fun x hx => h x (List.mem_cons_of_mem _ hx)
    rw [prodB]
    calc (1 : Int) = 1 * 1 := rfl
      _ ≤ (r.f1 - r.f0 + 1) * prodB t := Int.mul_le_mul (by omega) h2 (by omega) (by omega)
theorem le_mul {a b : Int} (h0 : 0 ≤ a) (h1 : 1 ≤ b) : a ≤ a * b := by
  calc a = a * 1 := (Int.mul_one a).symm
    _ ≤ a * b := Int.mul_le_mul_of_nonneg_left h1 h0
theorem bytes_l1 (l : List Rg) (L : List (List Rg)) (hL : L.length ≤ 1000000) (all : Int) (i : Nat) (hi : i < L.length) (hs : ∀ r ∈ rd_L2 L (i : Int), 0 ≤ r.f0 ∧ r.f0 ≤ r.f1 ∧ r.f1 ≤ 255) (hl4 : (rd_L2 L (i : Int)).length ≤ 4) (ha : 0 ≤ all ∧ all ≤ 1000000000000) : ∀ (d k kk : Nat) (n : Int), kk + d = (rd_L2 L (i : Int)).length → 1 ≤ n → n * prodB ((rd_L2 L (i : Int)).drop kk) ≤ 2000000 →
    exegetelaw03_SeqsBytes.l1 (k + d + 1) l L all (i : Int) n (kk : Int) = exegetelaw03_SeqsBytes.l0 k l L (all + n * prodB ((rd_L2 L (i : Int)).drop kk)) ((i : Int) + 1)
  | 0, k, kk, n, h, h1, h2 => by
    rw [List.drop_eq_nil_of_le (by omega)] at h2 ⊢
    rw [prodB, Int.mul_one] at h2 ⊢
    rw [exegetelaw03_SeqsBytes.l1, if_pos (by omega), if_pos (by omega), if_neg (by omega), wrq (by omega) (by omega), wrq (by omega) (by omega)]
  | d + 1, k, kk, n, h, h1, h2 => by
    have hkk : kk < (rd_L2 L (i : Int)).length := by omega
    have hr := hs _ (rd_memq hkk)
    have hdr := rd_dropq hkk
    rw [hdr, prodB] at h2 ⊢
    have hp := prod_pos ((rd_L2 L (i : Int)).drop (kk + 1)) fun x hx => (hs x (List.mem_of_mem_drop hx)).2.1
    generalize hc : (rd_T35 (rd_L2 L (i : Int)) (kk : Int)).f1 - (rd_T35 (rd_L2 L (i : Int)) (kk : Int)).f0 + 1 = c at *
    rw [← Int.mul_assoc] at h2 ⊢
    have hnc : 1 ≤ n * c := by
      calc (1 : Int) = 1 * 1 := rfl
        _ ≤ n * c := Int.mul_le_mul h1 (by omega) (by omega) (by omega)
    have hle := le_mul (a := n * c) (by omega) hp
    have hnx := bytes_l1 l L hL all i hi hs hl4 ha d k (kk + 1) (n * c) (by omega) hnc h2
    rw [show ((kk + 1 : Nat) : Int) = (kk : Int) + 1 by omega] at hnx
    rw [← hnx, show k + (d + 1) + 1 = (k + d + 1) + 1 by omega, exegetelaw03_SeqsBytes.l1, if_pos (by omega), if_pos (by omega), if_pos (by omega), if_pos (by omega), if_neg (by omega), if_neg (by omega), if_neg (by omega), wrq (x := (rd_T35 (rd_L2 L (i : Int)) (kk : Int)).f1 - (rd_T35 (rd_L2 L (i : Int)) (kk : Int)).f0) (by omega) (by omega), hc, wrq (x := c) (by omega) (by omega), wrq (x := n * c) (by omega) (by omega), wrq (by omega) (by omega)]
def fbB : List Rg → Nat
  | [] => 0
  | x :: t => ((oneB x).length + 3) + fbB t
theorem fbB_le : ∀ ps : List Rg, (∀ z ∈ ps, Good z) → fbB ps ≤ 7 * ps.length
  | [], _ => Nat.le_refl _
  | x :: t, h => by
    have h1 := (one_ok (h x List.mem_cons_self)).2.2.1
    have h2 := fbB_le t fun z hz => h z (List.mem_cons_of_mem _ hz)
    rw [fbB, List.length_cons]; omega
theorem sizeB_nonneg : ∀ ps : List Rg, (∀ z ∈ ps, z.f0 ≤ z.f1) → 0 ≤ sizeB ps
  | [], _ => Int.le_refl _
  | x :: t, h => by
    have h1 := h x List.mem_cons_self
    have h2 := sizeB_nonneg t fun z hz => h z (List.mem_cons_of_mem _ hz)
    rw [sizeB]; omega
theorem bytes_l0 (l : List Rg) (ps : List Rg) (hg : ∀ z ∈ ps, Good z) (hps : ps.length ≤ 1000000) : ∀ (d k i : Nat) (all : Int), i + d = ps.length → 0 ≤ all → all + sizeB (ps.drop i) ≤ 1000000000 →
    exegetelaw03_SeqsBytes.l0 (k + fbB (ps.drop i)) l (ps.map oneB) all (i : Int) = exegetelaw03_SeqsBytes.l0 k l (ps.map oneB) (all + sizeB (ps.drop i)) (ps.length : Int)
  | 0, k, i, all, h, _, _ => by
    obtain rfl : i = ps.length := by omega
    rw [List.drop_length, sizeB, fbB, Int.add_zero, Nat.add_zero]
  | d + 1, k, i, all, h, h0, h1 => by
    have hi : i < ps.length := by omega
    have hx := hg ps[i] (List.getElem_mem hi)
    have hdr : ps.drop i = ps[i] :: ps.drop (i + 1) := List.drop_eq_getElem_cons hi
    rw [hdr, sizeB] at h1
    rw [hdr, sizeB, fbB]
    have hrd : rd_L2 (ps.map oneB) (i : Int) = oneB ps[i] := by
      simp [rd_L2, List.getD_eq_getElem?_getD, List.getElem?_eq_getElem hi]
    obtain ⟨o1, o2, o3, o4⟩ := one_ok hx
    have hsn := sizeB_nonneg (ps.drop (i + 1)) fun z hz => (hg z (List.mem_of_mem_drop hz)).le
    have hl := (All.mayB_iff _).mp hx.low
    have hh := (All.mayB_iff _).mp hx.high
    have hle := hx.le
    have hb1 := bytes_l1 l (ps.map oneB) (by rw [List.length_map]; exact hps) all i (by rw [List.length_map]; exact hi) (by rw [hrd]; exact o1) (by rw [hrd]; exact o3) ⟨h0, by omega⟩ (oneB ps[i]).length (k + fbB (ps.drop (i + 1))) 0 1 (by rw [hrd]; omega) (Int.le_refl _) (by rw [List.drop_zero, hrd, o4, Int.one_mul]; omega)
    rw [List.drop_zero, hrd, o4, Int.one_mul] at hb1
    have hnx := bytes_l0 l ps hg hps d k (i + 1) (all + (ps[i].f1 - ps[i].f0 + 1)) (by omega) (by omega) (by omega)
    rw [show ((i + 1 : Nat) : Int) = (i : Int) + 1 by omega] at hnx
    rw [show k + ((oneB ps[i]).length + 3 + fbB (ps.drop (i + 1))) = (k + fbB (ps.drop (i + 1)) + (oneB ps[i]).length + 1) + 1 + 1 by omega, exegetelaw03_SeqsBytes.l0, if_pos (by rw [List.length_map]; omega), if_pos (by omega), hrd, if_neg (by omega), decide_eq_false (by omega), exegetelaw03_SeqsBytes.j2, if_neg (by decide)]
    rw [show ((0 : Nat) : Int) = 0 from rfl] at hb1
    rw [hb1, hnx, Int.add_assoc]
theorem asc_size : ∀ {l : List Rg} {lo : Int}, Asc lo l → 0 ≤ lo → (∀ z ∈ l, z.f1 ≤ 1114111) → ∀ N : Nat, 1114112 ≤ (N : Int) → sizeB l = cntF (hasB l) N
  | [], lo, _, _, _, N, _ => (cntF_false N).symm
  | r :: t, lo, ⟨p1, p2, p3⟩, h0, hz, N, hN => by
    have p4 := hz r List.mem_cons_self
    rw [sizeB, asc_size p3 (by omega) (fun z hm => hz z (List.mem_cons_of_mem _ hm)) N hN]
    rw [cntF_or (F := inR r) (G := hasB t) (H := hasB (r :: t)) N fun n h1 h2 => ⟨fun h3 h4 => by
      have := (inR_iff r n).mp h3
      obtain ⟨y, hy, h5, h6⟩ := hasB_mem h4
      have := (p3.mem y hy).1; omega, rfl⟩]
    rw [cntF_inR r (by omega) (by omega) N, if_neg (show ¬ ((N : Int) ≤ r.f0) by omega)]
    by_cases c : (N : Int) ≤ r.f1 + 1
    · rw [if_pos c]; omega
    · rw [if_neg c]
theorem sizeq_l0 (x0 : List Rg) (hb : x0.length ≤ 4000000) : ∀ (d k i : Nat) (s lo : Int), i + d = x0.length → d < k → Canon lo (x0.drop i) → 0 ≤ lo → lo ≤ 1114113 → 0 ≤ s → s ≤ lo → ranges_Size.l0 k s x0 (x0.length : Int) (i : Int) = some (s + sizeB (x0.drop i))
  | d, 0, i, s, lo, _, h, _, _, _, _, _ => by omega
  | 0, k + 1, i, s, lo, h, _, _, _, _, _, _ => by
    rw [ranges_Size.l0, if_neg (by omega), List.drop_eq_nil_of_le (by omega), sizeB, Int.add_zero]
  | d + 1, k + 1, i, s, lo, h, hk, hc, h0, h1, h2, h3 => by
    rw [rd_dropq (show i < x0.length by omega)] at hc ⊢
    obtain ⟨p1, p2, p3, p4⟩ := hc
    rw [ranges_Size.l0, if_pos (by omega), if_pos (by omega), if_pos (by omega), sizeB, wrq (x := (rd_T35 x0 (i : Int)).f1 - (rd_T35 x0 (i : Int)).f0) (by omega) (by omega), wrq (x := (rd_T35 x0 (i : Int)).f1 - (rd_T35 x0 (i : Int)).f0 + 1) (by omega) (by omega), wrq (x := s + _) (by omega) (by omega), wrq (by omega) (by omega)]
    have := sizeq_l0 x0 hb d k (i + 1) (s + ((rd_T35 x0 (i : Int)).f1 - (rd_T35 x0 (i : Int)).f0 + 1)) _ (by omega) (by omega) p4 (by omega) (by omega) (by omega) (by omega)
    rw [show ((i + 1 : Nat) : Int) = (i : Int) + 1 by omega] at this
    rw [this]; congr 1; omega
theorem sizeq_f (k : Nat) (p : List Rg) (hb : p.length ≤ 100000) (hk : 1000001 ≤ k) : ranges_Size.f k p = some (sizeB (pickB (hasB p) p)) := by
  unfold ranges_Size.f ranges_Norm.f
  rw [if_pos hb, Option.bind_some]
  have hu := norm_upto p
  have hlen := pickB_length (hasB p) p
  have := sizeq_l0 (pickB (hasB p) p) (by omega) (pickB (hasB p) p).length k 0 0 0 (by omega) (by omega) (by rw [List.drop_zero]; exact hu.can) (by omega) (by omega) (by omega) (by omega)
  rw [List.drop_zero, Int.zero_add] at this
  exact this
theorem SeqsBytes : exegetelaw03_SeqsBytes.Pure := by
  intro l hm hw
  refine ⟨9000000, ?_⟩
  unfold exegetelaw03_SeqsBytes.f
  rw [awake_f _ (by omega), Option.bind_some, if_pos rfl]
  by_cases c1 : (l.length : Int) > 20
  · rw [decide_eq_true c1]; simp only [exegetelaw03_SeqsBytes.j0, if_true]
  rw [decide_eq_false c1]
  simp only [exegetelaw03_SeqsBytes.j0, Bool.false_eq_true, if_false]
  rw [of_f l (by omega) _ (by omega), Option.bind_some]
  have hpl := pieces_length l (by omega)
  have hg := pieces_good l
  have hasc := pieces_asc l
  have htop : ∀ z ∈ piecesOf l, z.f1 ≤ 1114111 := fun z hz => ((All.mayB_iff _).mp (hg z hz).high).2.1
  obtain ⟨N, hN⟩ : ∃ N : Nat, (N : Int) = 1114112 := ⟨1114112, by decide⟩
  have hsz := asc_size hasc (Int.le_refl _) htop N (by omega)
  have hfb := fbB_le _ hg
  have hbnd : ∀ (F : Int → Bool) (M : Nat), 0 ≤ cntF F M ∧ cntF F M ≤ M := by
    intro F M
    induction M with
    | zero => exact ⟨Int.le_refl _, Int.le_refl _⟩
    | succ M ih =>
      rw [cntF]
      by_cases c : F M = true
      · rw [if_pos c]; omega
      · rw [if_neg c]; omega
  have hb := hbnd (hasB (piecesOf l)) N
  have h1 := bytes_l0 l (piecesOf l) hg (by omega) (piecesOf l).length (8999999 - fbB (piecesOf l)) 0 0 (by omega) (by omega) (by rw [List.drop_zero]; omega)
  rw [List.drop_zero, Int.zero_add, Nat.sub_add_cancel (by omega)] at h1
  rw [show ((0 : Nat) : Int) = 0 from rfl] at h1
  rw [h1]
  obtain ⟨k', hk'⟩ : ∃ k', 8999999 - fbB (piecesOf l) = k' + 1 := ⟨8999998 - fbB (piecesOf l), by omega⟩
  rw [hk', exegetelaw03_SeqsBytes.l0, if_neg (by rw [List.length_map]; omega)]
  have hll : (lessB l [⟨55296, 57343⟩]).length ≤ 2 * (l.length + 1) + 2 := by
    have := pickB_length (lessF l [⟨55296, 57343⟩]) (l ++ [⟨55296, 57343⟩]); rw [List.length_append] at this; exact this
  have el : ranges_Less.f l [(⟨55296, 57343⟩ : Rg)] = some (lessB l [⟨55296, 57343⟩]) := by unfold ranges_Less.f; rw [if_pos ⟨by omega, by simp⟩]
  rw [el, Option.bind_some, sizeq_f _ _ (by omega) (by omega), Option.bind_some]
  have e2 := (norm_upto (lessB l [⟨55296, 57343⟩])).size N hN
  rw [e2, hsz]
  have e3 : cntF (hasB (piecesOf l)) N = cntF (hasB (lessB l [⟨55296, 57343⟩])) N := cntF_congr N fun n hn0 hn1 => by
    rw [(less_upto l [⟨55296, 57343⟩]).at hn0 (by omega), pieces_has]
    unfold lessF
    congr 1
    rw [hasB_cons, hasB_nil, Bool.or_false, Bool.eq_iff_iff, All.mayB_iff, Bool.not_eq_true', ← Bool.not_eq_true, inR_iff]
    show _ ↔ ¬ (55296 ≤ n ∧ n ≤ 57343)
    omega
  rw [e3, beq_self_eq_true]
end Go.Proofs.Ytcdahnkdongmdaa.Pure
