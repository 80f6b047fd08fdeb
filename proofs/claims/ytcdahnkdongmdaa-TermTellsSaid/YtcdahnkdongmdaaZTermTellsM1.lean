/- Texts of the claim TermTells, merged, without what it does not use. -/
import Derived.RowKit
import Derived.IntWalk
import Derived.Laws.BitsLemmas
import Derived.Laws.BitsAllLaws
namespace Go.Proofs.Ytcdahnkdongmdaa.All
open Go.RowKit
theorem wraps_i64 (n : Int) (h₀ : 0 ≤ n) (h₁ : n < 2 ^ 62) : IntKind.i64.wrap n = n := by rw [IntKind.wrap_i64]; omega
theorem i64_and63 (x : Int) (h₀ : 0 ≤ x) (h₁ : x < 4611686018427387904) : bits .and .i64 x 63 = x % 64 := bits_mask .i64 62 (by decide) wraps_i64 6 (by decide) x h₀ h₁
theorem i64_or0 (y : Int) (h₀ : 0 ≤ y) (h₁ : y < 4611686018427387904) : bits .or .i64 0 y = 0 + y := bits_join .i64 62 (by decide) wraps_i64 62 0 y (by decide) (by decide) (by decide) h₀ h₁ h₁
theorem i64_or128 (y : Int) (h₀ : 0 ≤ y) (h₁ : y < 64) : bits .or .i64 128 y = 128 + y := bits_join .i64 62 (by decide) wraps_i64 6 128 y (by decide) (by decide) (by decide) h₀ h₁ (by omega)
theorem i64_or192 (y : Int) (h₀ : 0 ≤ y) (h₁ : y < 32) : bits .or .i64 192 y = 192 + y := bits_join .i64 62 (by decide) wraps_i64 5 192 y (by decide) (by decide) (by decide) h₀ h₁ (by omega)
theorem i64_or224 (y : Int) (h₀ : 0 ≤ y) (h₁ : y < 16) : bits .or .i64 224 y = 224 + y := bits_join .i64 62 (by decide) wraps_i64 4 224 y (by decide) (by decide) (by decide) h₀ h₁ (by omega)
theorem i64_or240 (y : Int) (h₀ : 0 ≤ y) (h₁ : y < 8) : bits .or .i64 240 y = 240 + y := bits_join .i64 62 (by decide) wraps_i64 3 240 y (by decide) (by decide) (by decide) h₀ h₁ (by omega)
def putOf (r : Int) : List Int :=
  if r < 128 then [r] else if r < 2048 then [192 + r / 64, 128 + r % 64] else if r < 65536 then [224 + r / 4096, 128 + r / 64 % 64, 128 + r % 64]
  else [240 + r / 262144, 128 + r / 4096 % 64, 128 + r / 64 % 64, 128 + r % 64]
def mayB (r : Int) : Bool := decide (0 ≤ r) && decide (r ≤ 1114111) && (decide (r < 55296) || decide (r > 57343))
theorem mayB_iff (r : Int) : mayB r = true ↔ 0 ≤ r ∧ r ≤ 1114111 ∧ (r < 55296 ∨ 57343 < r) := by
  simp [mayB, and_assoc]
end Go.Proofs.Ytcdahnkdongmdaa.All
