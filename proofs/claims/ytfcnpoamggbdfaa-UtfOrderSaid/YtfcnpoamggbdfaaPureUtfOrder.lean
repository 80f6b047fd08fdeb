/- Of the law UtfOrder: for every two numbers it tells true. -/
import Derived.Test.YtfcnpoamggbdfaaAllx10
import Derived.Test.YtfcnpoamggbdfaaNUtfC
namespace Go.Proofs.Ytfcnpoamggbdfaa.Pure
open Go.RowKit Go.Proofs.Ytfcnpoamggbdfaa.All Go.Proofs.YtfcnpoamggbdfaaW.PrintWords Go.Proofs.YtfcnpoamggbdfaaW.PrintLast
def lexI : List Int → List Int → Bool
  | _, [] => false
  | [], _ :: _ => true
  | a :: x, b :: y => decide (a < b) || (decide (a = b) && lexI x y)
theorem less_lex : ∀ (xs ys : List Int), Bytes xs → Bytes ys → Op.bytesLess (xs.map fun n => UInt8.ofNat n.toNat) (ys.map fun n => UInt8.ofNat n.toNat) = lexI xs ys
  | xs, [], _, _ => by cases xs <;> rfl
  | [], y :: ys, _, _ => rfl
  | x :: xs, y :: ys, hx, hy => by
    have h1 := hx x (by simp)
    have h2 := hy y (by simp)
    have ih := less_lex xs ys (fun z hz => hx z (List.mem_cons_of_mem _ hz)) (fun z hz => hy z (List.mem_cons_of_mem _ hz))
    simp only [List.map_cons, Op.bytesLess, lexI, ih]
    have e1 : decide (UInt8.ofNat x.toNat < UInt8.ofNat y.toNat) = decide (x < y) := by
      rw [decide_eq_decide, UInt8.lt_iff_toNat_lt]
      simp only [UInt8.toNat_ofNat']
      omega
    have e2 : (UInt8.ofNat x.toNat == UInt8.ofNat y.toNat) = decide (x = y) := by
      rw [Bool.eq_iff_iff]
      simp only [beq_iff_eq, decide_eq_true_eq]
      constructor
      · intro h
        have := congrArg UInt8.toNat h
        simp only [UInt8.toNat_ofNat'] at this
        omega
      · rintro rfl; rfl
    rw [e1, e2]
theorem lex_put (a b : Int) (ha : mayB a = true) (hb : mayB b = true) : lexI (putOf a) (putOf b) = decide (a < b) := by
  have h1 := (mayB_iff a).mp ha
  have h2 := (mayB_iff b).mp hb
  rw [Bool.eq_iff_iff]
  unfold putOf
  by_cases a1 : a < 128
  · rw [if_pos a1]
    by_cases b1 : b < 128
    · rw [if_pos b1]; simp [lexI]
    · rw [if_neg b1]
      by_cases b2 : b < 2048
      · rw [if_pos b2]; simp [lexI]; omega
      · rw [if_neg b2]
        by_cases b3 : b < 65536
        · rw [if_pos b3]; simp [lexI]; omega
        · rw [if_neg b3]; simp [lexI]; omega
  · rw [if_neg a1]
    by_cases a2 : a < 2048
    · rw [if_pos a2]
      by_cases b1 : b < 128
      · rw [if_pos b1]; simp [lexI]; omega
      · rw [if_neg b1]
        by_cases b2 : b < 2048
        · rw [if_pos b2]; simp [lexI]; omega
        · rw [if_neg b2]
          by_cases b3 : b < 65536
          · rw [if_pos b3]; simp [lexI]; omega
          · rw [if_neg b3]; simp [lexI]; omega
    · rw [if_neg a2]
      by_cases a3 : a < 65536
      · rw [if_pos a3]
        by_cases b1 : b < 128
        · rw [if_pos b1]; simp [lexI]; omega
        · rw [if_neg b1]
          by_cases b2 : b < 2048
          · rw [if_pos b2]; simp [lexI]; omega
          · rw [if_neg b2]
            by_cases b3 : b < 65536
            · rw [if_pos b3]; simp [lexI]; omega
            · rw [if_neg b3]; simp [lexI]; omega
      · rw [if_neg a3]
        by_cases b1 : b < 128
        · rw [if_pos b1]; simp [lexI]; omega
        · rw [if_neg b1]
          by_cases b2 : b < 2048
          · rw [if_pos b2]; simp [lexI]; omega
          · rw [if_neg b2]
            by_cases b3 : b < 65536
            · rw [if_pos b3]; simp [lexI]; omega
            · rw [if_neg b3]; simp [lexI]; omega
theorem sz_mono (a b : Int) (h : a ≤ b) : szOf a ≤ szOf b := by
  unfold szOf
  split <;> split <;> (try split) <;> (try split) <;> (try split) <;> (try split) <;> omega
theorem UtfOrder : exegetelaw01_UtfOrder.Pure := by
  intro a b _ _
  refine ⟨10, ?_⟩
  unfold exegetelaw01_UtfOrder.f
  rw [awake_f 10 (by omega), put_f, put_f]
  by_cases c1 : mayB a = true
  · rw [if_pos c1]
    by_cases c2 : mayB b = true
    · rw [if_pos c2]
      simp only [Option.bind_some, if_true]
      rw [str_text, str_text, less_lex _ _ (put_bytes c1) (put_bytes c2), lex_put a b c1 c2, if_pos (by simp)]
      by_cases c3 : a > b
      · rw [if_pos c3]
      · rw [if_neg c3, put_len, put_len, decide_eq_true (sz_mono a b (by omega))]
    · rw [if_neg c2]; simp
  · rw [if_neg c1]
    by_cases c2 : mayB b = true
    · rw [if_pos c2]; simp
    · rw [if_neg c2]; simp
end Go.Proofs.Ytfcnpoamggbdfaa.Pure
