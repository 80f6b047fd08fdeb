/- The chapter's examples, as the law's own first function asks them. -/
import Derived.Test.YtfcnpoamggbdfaaAllx3
import Derived.Test.YtfcnpoamggbdfaaNUtfB
namespace Go.Proofs.Ytfcnpoamggbdfaa.Pure
open Go.RowKit Go.Proofs.Ytfcnpoamggbdfaa.All Go.Proofs.YtfcnpoamggbdfaaW.PrintWords Go.Proofs.YtfcnpoamggbdfaaW.PrintLast
theorem awake_f (k : Nat) (hk : 4 ≤ k) : exegetelaw01_awake.f k = some true := by
  unfold exegetelaw01_awake.f
  rw [next_f [195, 164] 0 (bytes_const _ rfl) (by decide), next_f [195] 0 (bytes_const _ rfl) (by decide), put_f]
  have e1 : nextOf [195, 164] 0 = (228, 2) := by decide
  have e2 : nextOf [195] 0 = (-1, 1) := by decide
  have e3 : mayB 228 = true := by decide
  have e4 : putOf 228 = [195, 164] := by decide
  have e5 : unitsOf [195, 164, 195] = 2 := by decide
  rw [e1, e2, if_pos e3, e4]
  simp only [Option.bind_some, if_true]
  rw [str_text, units_f _ (bytes_const _ rfl) (by decide) k (by simp; omega), e5]
  rfl
end Go.Proofs.Ytfcnpoamggbdfaa.Pure
