/- Texts of the claim TermTells, merged, without what it does not use. -/
import Derived.Test.YtcdahnkdongmdaaZTermTellsN4
namespace Go.Proofs.Ytcdahnkdongmdaa.Pure
set_option linter.unusedVariables false
set_option linter.unusedSimpArgs false
set_option linter.unnecessarySimpa false
open Go.RowKit Go.Proofs.Ytcdahnkdongmdaa.All Go.Proofs.YtcdahnkdongmdaaW.PrintWords Go.Proofs.YtcdahnkdongmdaaW.PrintLast
open Own
def oneB (x : Rg) : List Rg := List.zipWith (fun a b => (⟨a, b⟩ : Rg)) (putOf x.f0) (putOf x.f1)
structure Good (x : Rg) : Prop where
  low : All.mayB x.f0 = true
  high : All.mayB x.f1 = true
  le : x.f0 ≤ x.f1
  sz : szOf x.f0 = szOf x.f1
  one : x.f1 < 55296 ∨ 57343 < x.f0
  a1 : 128 ≤ x.f0 → AL 64 x
  a2 : 2048 ≤ x.f0 → AL 4096 x
  a3 : 65536 ≤ x.f0 → AL 262144 x
def acc : List Rg → List Int → Bool
  | [], [] => true
  | r :: s, c :: p => inR r c && acc s p
  | _, _ => false
theorem Good.may {x : Rg} (h : Good x) {v : Int} (h0 : x.f0 ≤ v) (h1 : v ≤ x.f1) : All.mayB v = true := by
  have a := (All.mayB_iff _).mp h.low
  have b := (All.mayB_iff _).mp h.high
  have := h.one
  rw [All.mayB_iff]; omega
theorem acc_length : ∀ {s : List Rg} {p : List Int}, acc s p = true → s.length = p.length
  | [], [], _ => rfl
  | [], c :: p, h => by cases h
  | r :: s, [], h => by cases h
  | r :: s, c :: p, h => by rw [acc, Bool.and_eq_true] at h; rw [List.length_cons, List.length_cons, acc_length h.2]
theorem acc1 (r : Rg) (p : List Int) : acc [r] p = true ↔ ∃ a, p = [a] ∧ r.f0 ≤ a ∧ a ≤ r.f1 := by
  constructor
  · intro h
    have hl := acc_length h
    match p, hl with
    | [a], _ => simp only [acc, Bool.and_eq_true, inR_iff, and_true] at h; exact ⟨a, rfl, h⟩
  · rintro ⟨a, rfl, h⟩; simp only [acc, Bool.and_eq_true, inR_iff, and_true]; exact h
theorem acc2 (r s : Rg) (p : List Int) : acc [r, s] p = true ↔ ∃ a b, p = [a, b] ∧ r.f0 ≤ a ∧ a ≤ r.f1 ∧ s.f0 ≤ b ∧ b ≤ s.f1 := by
  constructor
  · intro h
    have hl := acc_length h
    match p, hl with
    | [a, b], _ => simp only [acc, Bool.and_eq_true, inR_iff, and_true] at h; exact ⟨a, b, rfl, h.1.1, h.1.2, h.2⟩
  · rintro ⟨a, b, rfl, h1, h2, h3⟩; simp only [acc, Bool.and_eq_true, inR_iff, and_true]; exact ⟨⟨h1, h2⟩, h3⟩
theorem acc3 (r s t : Rg) (p : List Int) : acc [r, s, t] p = true ↔ ∃ a b c, p = [a, b, c] ∧ r.f0 ≤ a ∧ a ≤ r.f1 ∧ s.f0 ≤ b ∧ b ≤ s.f1 ∧ t.f0 ≤ c ∧ c ≤ t.f1 := by
  constructor
  · intro h
    have hl := acc_length h
    match p, hl with
    | [a, b, c], _ => simp only [acc, Bool.and_eq_true, inR_iff, and_true] at h; exact ⟨a, b, c, rfl, h.1.1, h.1.2, h.2.1.1, h.2.1.2, h.2.2⟩
  · rintro ⟨a, b, c, rfl, h1, h2, h3, h4, h5⟩; simp only [acc, Bool.and_eq_true, inR_iff, and_true]; exact ⟨⟨h1, h2⟩, ⟨h3, h4⟩, h5⟩
theorem acc4 (r s t u : Rg) (p : List Int) : acc [r, s, t, u] p = true ↔ ∃ a b c d, p = [a, b, c, d] ∧ r.f0 ≤ a ∧ a ≤ r.f1 ∧ s.f0 ≤ b ∧ b ≤ s.f1 ∧ t.f0 ≤ c ∧ c ≤ t.f1 ∧ u.f0 ≤ d ∧ d ≤ u.f1 := by
  constructor
  · intro h
    have hl := acc_length h
    match p, hl with
    | [a, b, c, d], _ => simp only [acc, Bool.and_eq_true, inR_iff, and_true] at h; exact ⟨a, b, c, d, rfl, h.1.1, h.1.2, h.2.1.1, h.2.1.2, h.2.2.1.1, h.2.2.1.2, h.2.2.2⟩
  · rintro ⟨a, b, c, d, rfl, h1, h2, h3, h4, h5, h6, h7⟩; simp only [acc, Bool.and_eq_true, inR_iff, and_true]; exact ⟨⟨h1, h2⟩, ⟨h3, h4⟩, ⟨h5, h6⟩, h7⟩
theorem sz_cases {a b : Int} (h : szOf a = szOf b) : (a < 128 ∧ b < 128) ∨ (128 ≤ a ∧ a < 2048 ∧ 128 ≤ b ∧ b < 2048) ∨ (2048 ≤ a ∧ a < 65536 ∧ 2048 ≤ b ∧ b < 65536) ∨ (65536 ≤ a ∧ 65536 ≤ b) := by
  unfold szOf at h
  by_cases a1 : a < 128
  · rw [if_pos a1] at h
    by_cases b1 : b < 128
    · exact .inl ⟨a1, b1⟩
    · rw [if_neg b1] at h; split at h <;> (try split at h) <;> omega
  · rw [if_neg a1] at h
    by_cases b1 : b < 128
    · rw [if_pos b1] at h; split at h <;> (try split at h) <;> omega
    · rw [if_neg b1] at h
      by_cases a2 : a < 2048
      · rw [if_pos a2] at h
        by_cases b2 : b < 2048
        · exact .inr (.inl ⟨by omega, a2, by omega, b2⟩)
        · rw [if_neg b2] at h; split at h <;> omega
      · rw [if_neg a2] at h
        by_cases b2 : b < 2048
        · rw [if_pos b2] at h; split at h <;> omega
        · rw [if_neg b2] at h
          by_cases a3 : a < 65536
          · rw [if_pos a3] at h
            by_cases b3 : b < 65536
            · exact .inr (.inr (.inl ⟨by omega, a3, by omega, b3⟩))
            · rw [if_neg b3] at h; omega
          · rw [if_neg a3] at h
            by_cases b3 : b < 65536
            · rw [if_pos b3] at h; omega
            · exact .inr (.inr (.inr ⟨by omega, by omega⟩))
theorem put1 {r : Int} (h : r < 128) : putOf r = [r] := by unfold putOf; rw [if_pos h]
theorem put2 {r : Int} (h0 : 128 ≤ r) (h : r < 2048) : putOf r = [192 + r / 64, 128 + r % 64] := by unfold putOf; rw [if_neg (by omega), if_pos h]
theorem put3 {r : Int} (h0 : 2048 ≤ r) (h : r < 65536) : putOf r = [224 + r / 4096, 128 + r / 64 % 64, 128 + r % 64] := by unfold putOf; rw [if_neg (by omega), if_neg (by omega), if_pos h]
theorem put4 {r : Int} (h0 : 65536 ≤ r) : putOf r = [240 + r / 262144, 128 + r / 4096 % 64, 128 + r / 64 % 64, 128 + r % 64] := by unfold putOf; rw [if_neg (by omega), if_neg (by omega), if_neg (by omega)]
theorem lev {f0 f1 : Int} (h : f0 ≤ f1) (al : f0 / 64 = f1 / 64 ∨ (f0 % 64 = 0 ∧ f1 % 64 = 63)) (V u : Int) :
    (f0 / 64 ≤ V ∧ V ≤ f1 / 64 ∧ f0 % 64 ≤ u ∧ u ≤ f1 % 64) ↔ (0 ≤ u ∧ u < 64 ∧ f0 ≤ 64 * V + u ∧ 64 * V + u ≤ f1) := by
  rcases al with al | ⟨al1, al2⟩
  · constructor
    · rintro ⟨h1, h2, h3, h4⟩; omega
    · rintro ⟨h1, h2, h3, h4⟩; omega
  · constructor
    · rintro ⟨h1, h2, h3, h4⟩; omega
    · rintro ⟨h1, h2, h3, h4⟩; omega
theorem al_up {x0 x1 : Int} {b : Int} (hb : b = 64 ∨ b = 4096) (h : x0 / (64 * b) = x1 / (64 * b) ∨ (x0 % (64 * b) = 0 ∧ x1 % (64 * b) = 64 * b - 1)) : x0 / 64 / b = x1 / 64 / b ∨ (x0 / 64 % b = 0 ∧ x1 / 64 % b = b - 1) := by
  rcases hb with rfl | rfl
  · rcases h with h | ⟨h1, h2⟩
    · left; omega
    · right; omega
  · rcases h with h | ⟨h1, h2⟩
    · left; omega
    · right; omega
theorem dig3 {f0 f1 : Int} (h : f0 ≤ f1) (al : f0 / 64 = f1 / 64 ∨ (f0 % 64 = 0 ∧ f1 % 64 = 63)) (al2 : f0 / 64 / 64 = f1 / 64 / 64 ∨ (f0 / 64 % 64 = 0 ∧ f1 / 64 % 64 = 63)) (A B C : Int) :
    (f0 / 64 / 64 ≤ A ∧ A ≤ f1 / 64 / 64 ∧ f0 / 64 % 64 ≤ B ∧ B ≤ f1 / 64 % 64 ∧ f0 % 64 ≤ C ∧ C ≤ f1 % 64) ↔ (0 ≤ B ∧ B < 64 ∧ 0 ≤ C ∧ C < 64 ∧ f0 ≤ 64 * (64 * A + B) + C ∧ 64 * (64 * A + B) + C ≤ f1) := by
  have l1 := lev (f0 := f0 / 64) (f1 := f1 / 64) (by omega) al2 A B
  have l2 := lev h al (64 * A + B) C
  constructor
  · rintro ⟨h1, h2, h3, h4, h5, h6⟩
    have q1 := l1.mp ⟨h1, h2, h3, h4⟩
    have q2 := l2.mp ⟨q1.2.2.1, q1.2.2.2, h5, h6⟩
    exact ⟨q1.1, q1.2.1, q2.1, q2.2.1, q2.2.2.1, q2.2.2.2⟩
  · rintro ⟨h1, h2, h3, h4, h5, h6⟩
    have q2 := l2.mpr ⟨h3, h4, h5, h6⟩
    have q1 := l1.mpr ⟨h1, h2, q2.1, q2.2.1⟩
    exact ⟨q1.1, q1.2.1, q1.2.2.1, q1.2.2.2, q2.2.2.1, q2.2.2.2⟩
theorem dig4 {f0 f1 : Int} (h : f0 ≤ f1) (al : f0 / 64 = f1 / 64 ∨ (f0 % 64 = 0 ∧ f1 % 64 = 63)) (al2 : f0 / 64 / 64 = f1 / 64 / 64 ∨ (f0 / 64 % 64 = 0 ∧ f1 / 64 % 64 = 63)) (al3 : f0 / 64 / 64 / 64 = f1 / 64 / 64 / 64 ∨ (f0 / 64 / 64 % 64 = 0 ∧ f1 / 64 / 64 % 64 = 63)) (A B C D : Int) :
    (f0 / 64 / 64 / 64 ≤ A ∧ A ≤ f1 / 64 / 64 / 64 ∧ f0 / 64 / 64 % 64 ≤ B ∧ B ≤ f1 / 64 / 64 % 64 ∧ f0 / 64 % 64 ≤ C ∧ C ≤ f1 / 64 % 64 ∧ f0 % 64 ≤ D ∧ D ≤ f1 % 64) ↔ (0 ≤ B ∧ B < 64 ∧ 0 ≤ C ∧ C < 64 ∧ 0 ≤ D ∧ D < 64 ∧ f0 ≤ 64 * (64 * (64 * A + B) + C) + D ∧ 64 * (64 * (64 * A + B) + C) + D ≤ f1) := by
  have l1 := dig3 (f0 := f0 / 64) (f1 := f1 / 64) (by omega) al2 al3 A B C
  have l2 := lev h al (64 * (64 * A + B) + C) D
  constructor
  · rintro ⟨h1, h2, h3, h4, h5, h6, h7, h8⟩
    have q1 := l1.mp ⟨h1, h2, h3, h4, h5, h6⟩
    have q2 := l2.mp ⟨q1.2.2.2.2.1, q1.2.2.2.2.2, h7, h8⟩
    exact ⟨q1.1, q1.2.1, q1.2.2.1, q1.2.2.2.1, q2.1, q2.2.1, q2.2.2.1, q2.2.2.2⟩
  · rintro ⟨h1, h2, h3, h4, h5, h6, h7, h8⟩
    have q2 := l2.mpr ⟨h5, h6, h7, h8⟩
    have q1 := l1.mpr ⟨h1, h2, h3, h4, q2.1, q2.2.1⟩
    exact ⟨q1.1, q1.2.1, q1.2.2.1, q1.2.2.2.1, q1.2.2.2.2.1, q1.2.2.2.2.2, q2.2.2.1, q2.2.2.2⟩
theorem d4096 (x : Int) : x / 4096 = x / 64 / 64 := by omega
theorem d262144 (x : Int) : x / 262144 = x / 64 / 64 / 64 := by omega
theorem Good.acc_iff {x : Rg} (h : Good x) (p : List Int) : acc (oneB x) p = true ↔ ∃ v, x.f0 ≤ v ∧ v ≤ x.f1 ∧ p = putOf v := by
  have hl := (All.mayB_iff _).mp h.low
  have hh := (All.mayB_iff _).mp h.high
  have hle := h.le
  have al1 := h.a1
  have al2 := h.a2
  have al3 := h.a3
  unfold oneB
  rcases sz_cases h.sz with ⟨c1, c2⟩ | ⟨c1, c2, c3, c4⟩ | ⟨c1, c2, c3, c4⟩ | ⟨c1, c2⟩
  · rw [put1 c1, put1 c2]
    show acc [⟨x.f0, x.f1⟩] p = true ↔ _
    rw [acc1]
    constructor
    · rintro ⟨a, rfl, h1, h2⟩; exact ⟨a, h1, h2, (put1 (by have : a ≤ x.f1 := h2; omega)).symm⟩
    · rintro ⟨v, h1, h2, rfl⟩; exact ⟨v, put1 (by omega), h1, h2⟩
  · rw [put2 c1 c2, put2 c3 c4]
    show acc [⟨192 + x.f0 / 64, 192 + x.f1 / 64⟩, ⟨128 + x.f0 % 64, 128 + x.f1 % 64⟩] p = true ↔ _
    rw [acc2]
    have q1 : x.f0 / 64 = x.f1 / 64 ∨ (x.f0 % 64 = 0 ∧ x.f1 % 64 = 63) := al1 (by omega)
    clear al1 al2 al3 hl hh
    constructor
    · rintro ⟨a, b, rfl, h1, h2, h3, h4⟩
      simp only at h1 h2 h3 h4
      have q := (lev hle q1 (a - 192) (b - 128)).mp ⟨by omega, by omega, by omega, by omega⟩
      clear q1 h1 h2 h3 h4
      refine ⟨64 * (a - 192) + (b - 128), q.2.2.1, q.2.2.2, ?_⟩
      rw [put2 (by omega) (by omega)]
      congr 1
      · omega
      · congr 1; omega
    · rintro ⟨v, h1, h2, rfl⟩
      have q := (lev hle q1 (v / 64) (v % 64)).mpr ⟨by omega, by omega, by omega, by omega⟩
      refine ⟨_, _, put2 (by omega) (by omega), ?_⟩
      clear q1
      simp only
      omega
  · rw [put3 c1 c2, put3 c3 c4]
    show acc [⟨224 + x.f0 / 4096, 224 + x.f1 / 4096⟩, ⟨128 + x.f0 / 64 % 64, 128 + x.f1 / 64 % 64⟩, ⟨128 + x.f0 % 64, 128 + x.f1 % 64⟩] p = true ↔ _
    rw [acc3]
    have q1 : x.f0 / 64 = x.f1 / 64 ∨ (x.f0 % 64 = 0 ∧ x.f1 % 64 = 63) := al1 (by omega)
    have q2 := al_up (b := 64) (.inl rfl) (al2 (by omega))
    clear al1 al2 al3 hl hh
    constructor
    · rintro ⟨a, b, c, rfl, h1, h2, h3, h4, h5, h6⟩
      simp only [d4096] at h1 h2 h3 h4 h5 h6
      have q := (dig3 hle q1 q2 (a - 224) (b - 128) (c - 128)).mp ⟨by omega, by omega, by omega, by omega, by omega, by omega⟩
      clear q1 q2 h1 h2 h3 h4 h5 h6
      refine ⟨64 * (64 * (a - 224) + (b - 128)) + (c - 128), q.2.2.2.2.1, q.2.2.2.2.2, ?_⟩
      rw [put3 (by omega) (by omega)]
      congr 1
      · omega
      · congr 1
        · omega
        · congr 1; omega
    · rintro ⟨v, h1, h2, rfl⟩
      have q := (dig3 hle q1 q2 (v / 64 / 64) (v / 64 % 64) (v % 64)).mpr ⟨by omega, by omega, by omega, by omega, by omega, by omega⟩
      refine ⟨_, _, _, put3 (by omega) (by omega), ?_⟩
      clear q1 q2
      simp only [d4096]
      obtain ⟨q1, q2, q3, q4, q5, q6⟩ := q
      exact ⟨Int.add_le_add_left q1 _, Int.add_le_add_left q2 _, Int.add_le_add_left q3 _, Int.add_le_add_left q4 _, Int.add_le_add_left q5 _, Int.add_le_add_left q6 _⟩
  · rw [put4 c1, put4 c2]
    show acc [⟨240 + x.f0 / 262144, 240 + x.f1 / 262144⟩, ⟨128 + x.f0 / 4096 % 64, 128 + x.f1 / 4096 % 64⟩, ⟨128 + x.f0 / 64 % 64, 128 + x.f1 / 64 % 64⟩, ⟨128 + x.f0 % 64, 128 + x.f1 % 64⟩] p = true ↔ _
    rw [acc4]
    have q1 : x.f0 / 64 = x.f1 / 64 ∨ (x.f0 % 64 = 0 ∧ x.f1 % 64 = 63) := al1 (by omega)
    have q2 := al_up (b := 64) (.inl rfl) (al2 (by omega))
    have q3 := al_up (b := 64) (.inl rfl) (al_up (b := 4096) (.inr rfl) (al3 (by omega)))
    clear al1 al2 al3 hl hh
    constructor
    · rintro ⟨a, b, c, d, rfl, h1, h2, h3, h4, h5, h6, h7, h8⟩
      simp only [d4096, d262144] at h1 h2 h3 h4 h5 h6 h7 h8
      have q := (dig4 hle q1 q2 q3 (a - 240) (b - 128) (c - 128) (d - 128)).mp ⟨by omega, by omega, by omega, by omega, by omega, by omega, by omega, by omega⟩
      clear q1 q2 q3 h1 h2 h3 h4 h5 h6 h7 h8
      obtain ⟨q1, q2, q3, q4, q5, q6, q7, q8⟩ := q
      refine ⟨64 * (64 * (64 * (a - 240) + (b - 128)) + (c - 128)) + (d - 128), q7, q8, ?_⟩
      rw [put4 (by omega)]
      clear q7 q8 hle c1 c2 h
      congr 1
      · omega
      · congr 1
        · omega
        · congr 1
          · omega
          · congr 1; omega
    · rintro ⟨v, h1, h2, rfl⟩
      have q := (dig4 hle q1 q2 q3 (v / 64 / 64 / 64) (v / 64 / 64 % 64) (v / 64 % 64) (v % 64)).mpr ⟨by omega, by omega, by omega, by omega, by omega, by omega, by omega, by omega⟩
      refine ⟨_, _, _, _, put4 (by omega), ?_⟩
      clear q1 q2 q3
      simp only [d4096, d262144]
      obtain ⟨q1, q2, q3, q4, q5, q6, q7, q8⟩ := q
      exact ⟨Int.add_le_add_left q1 _, Int.add_le_add_left q2 _, Int.add_le_add_left q3 _, Int.add_le_add_left q4 _, Int.add_le_add_left q5 _, Int.add_le_add_left q6 _, Int.add_le_add_left q7 _, Int.add_le_add_left q8 _⟩
end Go.Proofs.Ytcdahnkdongmdaa.Pure
