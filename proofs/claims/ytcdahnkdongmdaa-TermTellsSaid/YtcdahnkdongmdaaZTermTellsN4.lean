/- Texts of the claim TermTells, merged, without what it does not use. -/
import Derived.Test.YtcdahnkdongmdaaZTermTellsX4
import Derived.Test.YtcdahnkdongmdaaZTermTellsN3
import Derived.Test.YtcdahnkdongmdaaZTermTellsN2
namespace Go.Proofs.Ytcdahnkdongmdaa.Pure
set_option linter.unusedVariables false
set_option linter.unusedSimpArgs false
set_option linter.unnecessarySimpa false
open Go.RowKit Go.Proofs.Ytcdahnkdongmdaa.All Go.Proofs.YtcdahnkdongmdaaW.PrintWords Go.Proofs.YtcdahnkdongmdaaW.PrintLast
open Own
def sp1 (b : Int) (x : Rg) : List Rg :=
  if x.f0 / b = x.f1 / b then [x] else
    (if x.f0 % b = 0 then [] else [⟨x.f0, x.f0 - x.f0 % b + (b - 1)⟩]) ++
    ((if (if x.f0 % b = 0 then x.f0 else x.f0 - x.f0 % b + b) ≤ (if x.f1 % b = b - 1 then x.f1 else x.f1 - x.f1 % b - 1) then [⟨if x.f0 % b = 0 then x.f0 else x.f0 - x.f0 % b + b, if x.f1 % b = b - 1 then x.f1 else x.f1 - x.f1 % b - 1⟩] else []) ++
     (if (if x.f1 % b = b - 1 then x.f1 else x.f1 - x.f1 % b - 1) < x.f1 then [⟨(if x.f1 % b = b - 1 then x.f1 else x.f1 - x.f1 % b - 1) + 1, x.f1⟩] else []))
def AL (b : Int) (x : Rg) : Prop := x.f0 / b = x.f1 / b ∨ (x.f0 % b = 0 ∧ x.f1 % b = b - 1)
def Asc (lo : Int) : List Rg → Prop
  | [] => True
  | r :: t => lo ≤ r.f0 ∧ r.f0 ≤ r.f1 ∧ Asc (r.f1 + 1) t
theorem Asc.weaken {lo lo' : Int} : ∀ {l : List Rg}, Asc lo l → lo' ≤ lo → Asc lo' l
  | [], _, _ => trivial
  | r :: t, ⟨h1, h2, h3⟩, h => ⟨by omega, h2, h3⟩
theorem Asc.append : ∀ {a b : List Rg} {lo m : Int}, Asc lo a → (∀ x ∈ a, x.f1 < m) → lo ≤ m → Asc m b → Asc lo (a ++ b)
  | [], b, lo, m, _, _, h, hb => hb.weaken h
  | r :: t, b, lo, m, ⟨h1, h2, h3⟩, hm, h, hb => ⟨h1, h2, Asc.append h3 (fun x hx => hm x (List.mem_cons_of_mem _ hx)) (by have := hm r List.mem_cons_self; omega) hb⟩
theorem Asc.mem : ∀ {l : List Rg} {lo : Int}, Asc lo l → ∀ x ∈ l, lo ≤ x.f0 ∧ x.f0 ≤ x.f1
  | [], lo, _, x, h => by cases h
  | r :: t, lo, ⟨h1, h2, h3⟩, x, h => by
    rcases List.mem_cons.mp h with rfl | h
    · exact ⟨h1, h2⟩
    · have := Asc.mem h3 x h; omega
structure Cov (x : Rg) (l : List Rg) : Prop where
  asc : Asc x.f0 l
  top : ∀ y ∈ l, y.f1 ≤ x.f1
  has : ∀ v, hasB l v = inR x v
theorem cov_self (x : Rg) (h : x.f0 ≤ x.f1) : Cov x [x] := ⟨⟨Int.le_refl _, h, trivial⟩, (fun y hy => by rcases List.mem_singleton.mp hy with rfl; exact Int.le_refl _), fun v => by rw [hasB_cons, hasB_nil, Bool.or_false]⟩
theorem cov_two (x y z : Rg) (h1 : y.f0 = x.f0) (h2 : y.f0 ≤ y.f1) (h3 : z.f0 = y.f1 + 1) (h4 : z.f0 ≤ z.f1) (h5 : z.f1 = x.f1) : Cov x [y, z] :=
  ⟨⟨by omega, h2, by omega, h4, trivial⟩, (fun w hw => by
    simp only [List.mem_cons, List.not_mem_nil, or_false] at hw
    rcases hw with rfl | rfl <;> omega), fun v => by
    rw [hasB_cons, hasB_cons, hasB_nil, Bool.or_false, Bool.eq_iff_iff, Bool.or_eq_true, inR_iff, inR_iff, inR_iff]; omega⟩
theorem cov_three (x y z u : Rg) (h1 : y.f0 = x.f0) (h2 : y.f0 ≤ y.f1) (h3 : z.f0 = y.f1 + 1) (h4 : z.f0 ≤ z.f1) (h5 : u.f0 = z.f1 + 1) (h6 : u.f0 ≤ u.f1) (h7 : u.f1 = x.f1) : Cov x [y, z, u] :=
  ⟨⟨by omega, h2, by omega, h4, by omega, h6, trivial⟩, (fun w hw => by
    simp only [List.mem_cons, List.not_mem_nil, or_false] at hw
    rcases hw with rfl | rfl | rfl <;> omega), fun v => by
    rw [hasB_cons, hasB_cons, hasB_cons, hasB_nil, Bool.or_false, Bool.eq_iff_iff, Bool.or_eq_true, Bool.or_eq_true, inR_iff, inR_iff, inR_iff, inR_iff]; omega⟩
theorem sp1_cov (b : Int) (hb : b = 64 ∨ b = 4096 ∨ b = 262144) (x : Rg) (h : x.f0 ≤ x.f1) (h0 : 0 ≤ x.f0) : Cov x (sp1 b x) := by
  unfold sp1
  by_cases c : x.f0 / b = x.f1 / b
  · rw [if_pos c]; exact cov_self x h
  · rw [if_neg c]
    by_cases c1 : x.f0 % b = 0
    · by_cases c2 : x.f1 % b = b - 1
      · simp only [c1, c2, if_true, if_pos h, Int.lt_irrefl, if_false, List.nil_append, List.append_nil]
        exact cov_self _ h
      · simp only [c1, c2, if_true, if_false, List.nil_append]
        have e1 : x.f0 ≤ x.f1 - x.f1 % b - 1 := by rcases hb with rfl | rfl | rfl <;> omega
        have e2 : x.f1 - x.f1 % b - 1 < x.f1 := by rcases hb with rfl | rfl | rfl <;> omega
        rw [if_pos e1, if_pos e2]
        exact cov_two _ _ _ rfl e1 rfl (by show x.f1 - x.f1 % b - 1 + 1 ≤ x.f1; omega) rfl
    · have d1 : x.f0 ≤ x.f0 - x.f0 % b + (b - 1) := by rcases hb with rfl | rfl | rfl <;> omega
      by_cases c2 : x.f1 % b = b - 1
      · simp only [c1, c2, if_true, if_false, Int.lt_irrefl, List.append_nil]
        have e1 : x.f0 - x.f0 % b + b ≤ x.f1 := by rcases hb with rfl | rfl | rfl <;> omega
        rw [if_pos e1]
        exact cov_two _ _ _ rfl d1 (by show x.f0 - x.f0 % b + b = x.f0 - x.f0 % b + (b - 1) + 1; omega) e1 rfl
      · simp only [c1, c2, if_false]
        have e2 : x.f1 - x.f1 % b - 1 < x.f1 := by rcases hb with rfl | rfl | rfl <;> omega
        by_cases e1 : x.f0 - x.f0 % b + b ≤ x.f1 - x.f1 % b - 1
        · rw [if_pos e1, if_pos e2]
          exact cov_three _ _ _ _ rfl d1 (by show x.f0 - x.f0 % b + b = x.f0 - x.f0 % b + (b - 1) + 1; omega) e1 rfl (by show x.f1 - x.f1 % b - 1 + 1 ≤ x.f1; omega) rfl
        · rw [if_neg e1, if_pos e2]
          exact cov_two _ _ _ rfl d1 (by show x.f1 - x.f1 % b - 1 + 1 = x.f0 - x.f0 % b + (b - 1) + 1; rcases hb with rfl | rfl | rfl <;> omega) (by show x.f1 - x.f1 % b - 1 + 1 ≤ x.f1; omega) rfl
theorem sp1_al (b : Int) (hb : b = 64 ∨ b = 4096 ∨ b = 262144) (x : Rg) (h : x.f0 ≤ x.f1) (h0 : 0 ≤ x.f0) : ∀ y ∈ sp1 b x, AL b y := by
  intro y hy
  unfold sp1 at hy
  by_cases c : x.f0 / b = x.f1 / b
  · rw [if_pos c] at hy
    rcases List.mem_singleton.mp hy with rfl; exact .inl c
  · rw [if_neg c] at hy
    rcases List.mem_append.mp hy with hy | hy
    · by_cases c1 : x.f0 % b = 0
      · rw [if_pos c1] at hy; cases hy
      · rw [if_neg c1] at hy
        rcases List.mem_singleton.mp hy with rfl
        refine .inl ?_
        show x.f0 / b = (x.f0 - x.f0 % b + (b - 1)) / b
        rcases hb with rfl | rfl | rfl <;> omega
    · rcases List.mem_append.mp hy with hy | hy
      · generalize hlo : (if x.f0 % b = 0 then x.f0 else x.f0 - x.f0 % b + b) = lo at hy
        generalize hhi : (if x.f1 % b = b - 1 then x.f1 else x.f1 - x.f1 % b - 1) = hi at hy
        by_cases c3 : lo ≤ hi
        · rw [if_pos c3] at hy
          rcases List.mem_singleton.mp hy with rfl
          refine .inr ⟨?_, ?_⟩
          · show lo % b = 0
            rw [← hlo]
            by_cases c1 : x.f0 % b = 0
            · rw [if_pos c1]; exact c1
            · rw [if_neg c1]; rcases hb with rfl | rfl | rfl <;> omega
          · show hi % b = b - 1
            rw [← hhi]
            by_cases c1 : x.f1 % b = b - 1
            · rw [if_pos c1]; exact c1
            · rw [if_neg c1]; rcases hb with rfl | rfl | rfl <;> omega
        · rw [if_neg c3] at hy; cases hy
      · by_cases c1 : x.f1 % b = b - 1
        · rw [if_pos c1, if_neg (Int.lt_irrefl _)] at hy; cases hy
        · rw [if_neg c1] at hy
          by_cases c4 : x.f1 - x.f1 % b - 1 < x.f1
          · rw [if_pos c4] at hy
            rcases List.mem_singleton.mp hy with rfl
            refine .inl ?_
            show (x.f1 - x.f1 % b - 1 + 1) / b = x.f1 / b
            rcases hb with rfl | rfl | rfl <;> omega
          · rw [if_neg c4] at hy; cases hy
theorem sp1_keep (b c : Int) (hbc : (b = 64 ∧ c = 4096) ∨ (b = 64 ∧ c = 262144) ∨ (b = 4096 ∧ c = 262144)) (x : Rg) (h : x.f0 ≤ x.f1) (h0 : 0 ≤ x.f0) (ha : AL c x) : ∀ y ∈ sp1 b x, AL c y := by
  intro y hy
  have hcov := sp1_cov b (by omega) x h h0
  have hy1 := hcov.asc.mem y hy
  have hy2 := hcov.top y hy
  rcases ha with ha | ⟨ha1, ha2⟩
  · left
    rcases hbc with ⟨rfl, rfl⟩ | ⟨rfl, rfl⟩ | ⟨rfl, rfl⟩ <;> omega
  · by_cases cc : x.f0 / c = x.f1 / c
    · left
      rcases hbc with ⟨rfl, rfl⟩ | ⟨rfl, rfl⟩ | ⟨rfl, rfl⟩ <;> omega
    · have e : sp1 b x = [x] := by
        unfold sp1
        have c1 : x.f0 % b = 0 := by rcases hbc with ⟨rfl, rfl⟩ | ⟨rfl, rfl⟩ | ⟨rfl, rfl⟩ <;> omega
        have c2 : x.f1 % b = b - 1 := by rcases hbc with ⟨rfl, rfl⟩ | ⟨rfl, rfl⟩ | ⟨rfl, rfl⟩ <;> omega
        by_cases c : x.f0 / b = x.f1 / b
        · rw [if_pos c]
        · rw [if_neg c]
          simp only [c1, c2, if_true, if_pos h, Int.lt_irrefl, if_false, List.nil_append, List.append_nil]
      rw [e] at hy
      rcases List.mem_singleton.mp hy with rfl
      exact .inr ⟨ha1, ha2⟩
def spB (b : Int) (l : List Rg) : List Rg := l.flatMap (sp1 b)
theorem cov_flat (x : Rg) (f : Rg → List Rg) : ∀ {l : List Rg} {lo : Int}, Asc lo l → (∀ y ∈ l, Cov y (f y)) → Asc lo (l.flatMap f) ∧ (∀ v, hasB (l.flatMap f) v = hasB l v) ∧ ∀ z ∈ l.flatMap f, ∃ y ∈ l, z ∈ f y
  | [], lo, _, _ => ⟨trivial, fun _ => rfl, fun z hz => by cases hz⟩
  | y :: t, lo, ⟨h1, h2, h3⟩, hf => by
    obtain ⟨a1, a2, a3⟩ := cov_flat x f h3 (fun z hz => hf z (List.mem_cons_of_mem _ hz))
    have hy := hf y List.mem_cons_self
    refine ⟨?_, fun v => ?_, fun z hz => ?_⟩
    · rw [List.flatMap_cons]
      exact Asc.append (hy.asc.weaken h1) (fun z hz => by have := hy.top z hz; show z.f1 < y.f1 + 1; omega) (by omega) a1
    · rw [List.flatMap_cons, hasB_append, hy.has, a2, hasB_cons]
    · rw [List.flatMap_cons] at hz
      rcases List.mem_append.mp hz with hz | hz
      · exact ⟨y, List.mem_cons_self, hz⟩
      · obtain ⟨w, hw, hz⟩ := a3 z hz
        exact ⟨w, List.mem_cons_of_mem _ hw, hz⟩
theorem cov_spB (b : Int) (hb : b = 64 ∨ b = 4096 ∨ b = 262144) (x : Rg) (h0 : 0 ≤ x.f0) {l : List Rg} (h : Cov x l) : Cov x (spB b l) ∧ (∀ z ∈ spB b l, AL b z) ∧ ∀ z ∈ spB b l, ∃ y ∈ l, z ∈ sp1 b y := by
  have hc : ∀ y ∈ l, Cov y (sp1 b y) := fun y hy => sp1_cov b hb y (h.asc.mem y hy).2 (by have := (h.asc.mem y hy).1; omega)
  obtain ⟨a1, a2, a3⟩ := cov_flat x (sp1 b) h.asc hc
  refine ⟨⟨a1, fun z hz => ?_, fun v => (a2 v).trans (h.has v)⟩, fun z hz => ?_, a3⟩
  · obtain ⟨y, hy, hz⟩ := a3 z hz
    have h1 := (hc y hy).top z hz
    have h2 := h.top y hy
    omega
  · obtain ⟨y, hy, hz⟩ := a3 z hz
    exact sp1_al b hb y (h.asc.mem y hy).2 (by have := (h.asc.mem y hy).1; omega) z hz
def splB (n : Int) (x : Rg) : List Rg :=
  if n = 0 then [x] else if n = 1 then spB 64 [x] else if n = 2 then spB 64 (spB 4096 [x]) else spB 64 (spB 4096 (spB 262144 [x]))
theorem splB_spec (n : Int) (hn : n = 0 ∨ n = 1 ∨ n = 2 ∨ n = 3) (x : Rg) (h : x.f0 ≤ x.f1) (h0 : 0 ≤ x.f0) :
    Cov x (splB n x) ∧ (1 ≤ n → ∀ z ∈ splB n x, AL 64 z) ∧ (2 ≤ n → ∀ z ∈ splB n x, AL 4096 z) ∧ (3 ≤ n → ∀ z ∈ splB n x, AL 262144 z) := by
  have hx := cov_self x h
  unfold splB
  rcases hn with rfl | rfl | rfl | rfl
  · rw [if_pos rfl]
    exact ⟨hx, fun h => by omega, fun h => by omega, fun h => by omega⟩
  · rw [if_neg (by decide), if_pos rfl]
    obtain ⟨a1, a2, a3⟩ := cov_spB 64 (.inl rfl) x h0 hx
    exact ⟨a1, fun _ => a2, fun h => by omega, fun h => by omega⟩
  · rw [if_neg (by decide), if_neg (by decide), if_pos rfl]
    obtain ⟨b1, b2, b3⟩ := cov_spB 4096 (.inr (.inl rfl)) x h0 hx
    obtain ⟨a1, a2, a3⟩ := cov_spB 64 (.inl rfl) x h0 b1
    refine ⟨a1, fun _ => a2, fun _ z hz => ?_, fun h => by omega⟩
    obtain ⟨y, hy, hz⟩ := a3 z hz
    have hm := b1.asc.mem y hy
    exact sp1_keep 64 4096 (.inl ⟨rfl, rfl⟩) y hm.2 (by omega) (b2 y hy) z hz
  · rw [if_neg (by decide), if_neg (by decide), if_neg (by decide)]
    obtain ⟨c1, c2, c3⟩ := cov_spB 262144 (.inr (.inr rfl)) x h0 hx
    obtain ⟨b1, b2, b3⟩ := cov_spB 4096 (.inr (.inl rfl)) x h0 c1
    obtain ⟨a1, a2, a3⟩ := cov_spB 64 (.inl rfl) x h0 b1
    have hb4 : ∀ y ∈ spB 4096 (spB 262144 [x]), AL 262144 y := fun y hy => by
      obtain ⟨w, hw, hy⟩ := b3 y hy
      have hm := c1.asc.mem w hw
      exact sp1_keep 4096 262144 (.inr (.inr ⟨rfl, rfl⟩)) w hm.2 (by omega) (c2 w hw) y hy
    refine ⟨a1, fun _ => a2, fun _ z hz => ?_, fun _ z hz => ?_⟩
    · obtain ⟨y, hy, hz⟩ := a3 z hz
      have hm := b1.asc.mem y hy
      exact sp1_keep 64 4096 (.inl ⟨rfl, rfl⟩) y hm.2 (by omega) (b2 y hy) z hz
    · obtain ⟨y, hy, hz⟩ := a3 z hz
      have hm := b1.asc.mem y hy
      exact sp1_keep 64 262144 (.inr (.inl ⟨rfl, rfl⟩)) y hm.2 (by omega) (hb4 y hy) z hz
end Go.Proofs.Ytcdahnkdongmdaa.Pure
