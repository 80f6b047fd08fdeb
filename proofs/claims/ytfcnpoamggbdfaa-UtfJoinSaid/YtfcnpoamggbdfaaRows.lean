/-
  No cell of these rows narrows 'for every input' (looked for: loops, veiled, ifaces, maps, wideKeys, modest, calm, conditions, laid).
  DERIVED. THE GIVEN ROWS OF THIS SEAT. 7 by the template 'for every input the law returns true; each argument reads behind the call as it read before'; 0 by the template 'total and deterministic' (their statements: YtfcnpoamggbdfaaTotals.lean).
  GIVEN WITH THE SEED: the statements are not yours to turn. If you find one false, say at which input.
  Laid BY PROGRAM, IN A SANDBOX (cutbox-rows.mjs): the forced cells as the released guide's own fill.sh prints them over the translation 615de57ab62c32c8… (all of the seat's roots in one cut). By AI agents, Wed Nov 11 2026. No macro, syntax, notation, axiom, sorry.
-/
import Derived.Test.YtfcnpoamggbdfaaChecked
import GoSem.Claim
import GoSem.ClaimJoined
import GoSem.ClaimMapViews
import Derived.JoinedTies
import Derived.KernelRfl
namespace Go.Proofs.Ytfcnpoamggbdfaa
/- THE CELL 'sum', in the pinned program and in every row, IS THE sha256 OF THE DUMP (.gsa) THAT YtfcnpoamggbdfaaProg.lean LOADS. Nothing in Lean hashes anything: it is a label: what it is worth is what the hold of that sum in a sandbox is worth. -/
noncomputable def Try.pinned : Pinned := { name := "ytfcnpoamggbdfaa", sum := "615de57ab62c32c8d6f66d45ee84390cd768816ca88517e56bdb0d1a45237ea6", checked := Try.checked }
namespace Rows
def none {H : Type} : Left H := { results := [], args := [] }

/-- 'exegetelaw01.UtfTells': WHATEVER THE INPUT: true; the input reads as it did. -/
def utfTellsSpec : ChangeSpec := { name := "utfTells", fn := fun _ => fun
  | [d1, d2, d3] => { results := [.lit (.bool true)], args := [d1, d2, d3] }
  | _ => none }
def utfTellsRow : OpenClaim := { program := "ytfcnpoamggbdfaa", sum := "615de57ab62c32c8d6f66d45ee84390cd768816ca88517e56bdb0d1a45237ea6", func := "exegete/exegetelaw01.UtfTells", spec := "utfTells", unfollowed := true, recurses := true, apart := false }
def UtfTellsSaid : Prop := utfTellsRow.holds Try.pinned (OpenSpec.ofChange utfTellsSpec)

/-- ITS FALSE NEIGHBOUR: 'it returns false'. Refute it at one input. -/
def utfTellsWrong : ChangeSpec := { name := "utfTells", fn := fun _ => fun
  | [d1, d2, d3] => { results := [.lit (.bool false)], args := [d1, d2, d3] }
  | _ => none }
def UtfTellsWrongFalsely : Prop := utfTellsRow.holds Try.pinned (OpenSpec.ofChange utfTellsWrong)

/-- 'exegetelaw01.UtfBack': WHATEVER THE INPUT: true; the input reads as it did. -/
def utfBackSpec : ChangeSpec := { name := "utfBack", fn := fun _ => fun
  | [d1, d2, d3] => { results := [.lit (.bool true)], args := [d1, d2, d3] }
  | _ => none }
def utfBackRow : OpenClaim := { program := "ytfcnpoamggbdfaa", sum := "615de57ab62c32c8d6f66d45ee84390cd768816ca88517e56bdb0d1a45237ea6", func := "exegete/exegetelaw01.UtfBack", spec := "utfBack", unfollowed := true, recurses := true, apart := false }
def UtfBackSaid : Prop := utfBackRow.holds Try.pinned (OpenSpec.ofChange utfBackSpec)

/-- ITS FALSE NEIGHBOUR: 'it returns false'. Refute it at one input. -/
def utfBackWrong : ChangeSpec := { name := "utfBack", fn := fun _ => fun
  | [d1, d2, d3] => { results := [.lit (.bool false)], args := [d1, d2, d3] }
  | _ => none }
def UtfBackWrongFalsely : Prop := utfBackRow.holds Try.pinned (OpenSpec.ofChange utfBackWrong)

/-- 'exegetelaw01.UtfAscii': WHATEVER THE INPUT: true; the input reads as it did. -/
def utfAsciiSpec : ChangeSpec := { name := "utfAscii", fn := fun _ => fun
  | [d1, d2] => { results := [.lit (.bool true)], args := [d1, d2] }
  | _ => none }
def utfAsciiRow : OpenClaim := { program := "ytfcnpoamggbdfaa", sum := "615de57ab62c32c8d6f66d45ee84390cd768816ca88517e56bdb0d1a45237ea6", func := "exegete/exegetelaw01.UtfAscii", spec := "utfAscii", unfollowed := true, recurses := true, apart := false }
def UtfAsciiSaid : Prop := utfAsciiRow.holds Try.pinned (OpenSpec.ofChange utfAsciiSpec)

/-- ITS FALSE NEIGHBOUR: 'it returns false'. Refute it at one input. -/
def utfAsciiWrong : ChangeSpec := { name := "utfAscii", fn := fun _ => fun
  | [d1, d2] => { results := [.lit (.bool false)], args := [d1, d2] }
  | _ => none }
def UtfAsciiWrongFalsely : Prop := utfAsciiRow.holds Try.pinned (OpenSpec.ofChange utfAsciiWrong)

/-- 'exegetelaw01.UtfUnits': WHATEVER THE INPUT: true; the input reads as it did. -/
def utfUnitsSpec : ChangeSpec := { name := "utfUnits", fn := fun _ => fun
  | [d1, d2] => { results := [.lit (.bool true)], args := [d1, d2] }
  | _ => none }
def utfUnitsRow : OpenClaim := { program := "ytfcnpoamggbdfaa", sum := "615de57ab62c32c8d6f66d45ee84390cd768816ca88517e56bdb0d1a45237ea6", func := "exegete/exegetelaw01.UtfUnits", spec := "utfUnits", unfollowed := true, recurses := true, apart := false }
def UtfUnitsSaid : Prop := utfUnitsRow.holds Try.pinned (OpenSpec.ofChange utfUnitsSpec)

/-- ITS FALSE NEIGHBOUR: 'it returns false'. Refute it at one input. -/
def utfUnitsWrong : ChangeSpec := { name := "utfUnits", fn := fun _ => fun
  | [d1, d2] => { results := [.lit (.bool false)], args := [d1, d2] }
  | _ => none }
def UtfUnitsWrongFalsely : Prop := utfUnitsRow.holds Try.pinned (OpenSpec.ofChange utfUnitsWrong)

/-- 'exegetelaw01.UtfOrder': WHATEVER THE INPUT: true; the input reads as it did. -/
def utfOrderSpec : ChangeSpec := { name := "utfOrder", fn := fun _ => fun
  | [d1, d2] => { results := [.lit (.bool true)], args := [d1, d2] }
  | _ => none }
def utfOrderRow : OpenClaim := { program := "ytfcnpoamggbdfaa", sum := "615de57ab62c32c8d6f66d45ee84390cd768816ca88517e56bdb0d1a45237ea6", func := "exegete/exegetelaw01.UtfOrder", spec := "utfOrder", unfollowed := true, recurses := true, apart := false }
def UtfOrderSaid : Prop := utfOrderRow.holds Try.pinned (OpenSpec.ofChange utfOrderSpec)

/-- ITS FALSE NEIGHBOUR: 'it returns false'. Refute it at one input. -/
def utfOrderWrong : ChangeSpec := { name := "utfOrder", fn := fun _ => fun
  | [d1, d2] => { results := [.lit (.bool false)], args := [d1, d2] }
  | _ => none }
def UtfOrderWrongFalsely : Prop := utfOrderRow.holds Try.pinned (OpenSpec.ofChange utfOrderWrong)

/-- 'exegetelaw01.UtfCut': WHATEVER THE INPUT: true; the input reads as it did. -/
def utfCutSpec : ChangeSpec := { name := "utfCut", fn := fun _ => fun
  | [d1, d2] => { results := [.lit (.bool true)], args := [d1, d2] }
  | _ => none }
def utfCutRow : OpenClaim := { program := "ytfcnpoamggbdfaa", sum := "615de57ab62c32c8d6f66d45ee84390cd768816ca88517e56bdb0d1a45237ea6", func := "exegete/exegetelaw01.UtfCut", spec := "utfCut", unfollowed := true, recurses := true, apart := false }
def UtfCutSaid : Prop := utfCutRow.holds Try.pinned (OpenSpec.ofChange utfCutSpec)

/-- ITS FALSE NEIGHBOUR: 'it returns false'. Refute it at one input. -/
def utfCutWrong : ChangeSpec := { name := "utfCut", fn := fun _ => fun
  | [d1, d2] => { results := [.lit (.bool false)], args := [d1, d2] }
  | _ => none }
def UtfCutWrongFalsely : Prop := utfCutRow.holds Try.pinned (OpenSpec.ofChange utfCutWrong)

/-- 'exegetelaw01.UtfJoin': WHATEVER THE INPUT: true; the input reads as it did. -/
def utfJoinSpec : ChangeSpec := { name := "utfJoin", fn := fun _ => fun
  | [d] => { results := [.lit (.bool true)], args := [d] }
  | _ => none }
def utfJoinRow : OpenClaim := { program := "ytfcnpoamggbdfaa", sum := "615de57ab62c32c8d6f66d45ee84390cd768816ca88517e56bdb0d1a45237ea6", func := "exegete/exegetelaw01.UtfJoin", spec := "utfJoin", unfollowed := true, recurses := true, apart := false }
def UtfJoinSaid : Prop := utfJoinRow.holds Try.pinned (OpenSpec.ofChange utfJoinSpec)

/-- ITS FALSE NEIGHBOUR: 'it returns false'. Refute it at one input. -/
def utfJoinWrong : ChangeSpec := { name := "utfJoin", fn := fun _ => fun
  | [d] => { results := [.lit (.bool false)], args := [d] }
  | _ => none }
def UtfJoinWrongFalsely : Prop := utfJoinRow.holds Try.pinned (OpenSpec.ofChange utfJoinWrong)

/- THE SECOND FORM. 'bulk': how many values and letters a reading holds, each counted each time it is reached (what is shared counts as often as it is met; a slice's spare places count too). A statement '..UptoSaid' is the law's where the arguments, and the package variables that the reading takes, are together of bulk at most 1048576: NARROWER than '..Said'. Prove '..Said' where nothing that the law and all that it calls make is longer than what came in: it says more and counts as full. Else prove '..UptoSaid'. A law counts once. -/
mutual
def uptoBulk {H : Type} : DataW H → Nat
  | .lit (.string bytes) => bytes.length + 1
  | .lit _ => 1
  | .nil => 1
  | .ptr d => uptoBulk d + 1
  | .slice elems spare => uptoBulkAll elems + uptoBulkAll spare + 1
  | .agg parts => uptoBulkAll parts + 1
  | .iface _ d => uptoBulk d + 1
  | .map entries => uptoBulkEntries entries + 1
  | .held _ => 1
def uptoBulkAll {H : Type} : List (DataW H) → Nat
  | [] => 0
  | d :: r => uptoBulk d + uptoBulkAll r
def uptoBulkEntries {H : Type} : List (Lit × DataW H) → Nat
  | [] => 0
  | x :: r => uptoBulkEntry x + uptoBulkEntries r
def uptoBulkEntry {H : Type} : Lit × DataW H → Nat
  | (.string bytes, d) => bytes.length + uptoBulk d + 1
  | (_, d) => uptoBulk d + 1
 end
def uptoSmall : (H : Type) → List (DataW H) → Bool := fun _ ds => decide (uptoBulkAll ds ≤ 1048576)
def OpenSpec.upto (s : _root_.Go.ChangeSpec) : _root_.Go.OpenSpec := { _root_.Go.OpenSpec.ofChange s with cond := some uptoSmall }

/-- 'exegetelaw01.UtfTells', WHERE WHAT IT READS IS OF BULK AT MOST 1048576: true; the input reads as it did. -/
def utfTellsUptoRow : OpenClaim := { program := "ytfcnpoamggbdfaa", sum := "615de57ab62c32c8d6f66d45ee84390cd768816ca88517e56bdb0d1a45237ea6", func := "exegete/exegetelaw01.UtfTells", spec := "utfTells", unfollowed := true, recurses := true, apart := false, narrowed := true }
def UtfTellsUptoSaid : Prop := utfTellsUptoRow.holds Try.pinned (OpenSpec.upto utfTellsSpec)

/-- 'exegetelaw01.UtfBack', WHERE WHAT IT READS IS OF BULK AT MOST 1048576: true; the input reads as it did. -/
def utfBackUptoRow : OpenClaim := { program := "ytfcnpoamggbdfaa", sum := "615de57ab62c32c8d6f66d45ee84390cd768816ca88517e56bdb0d1a45237ea6", func := "exegete/exegetelaw01.UtfBack", spec := "utfBack", unfollowed := true, recurses := true, apart := false, narrowed := true }
def UtfBackUptoSaid : Prop := utfBackUptoRow.holds Try.pinned (OpenSpec.upto utfBackSpec)

/-- 'exegetelaw01.UtfAscii', WHERE WHAT IT READS IS OF BULK AT MOST 1048576: true; the input reads as it did. -/
def utfAsciiUptoRow : OpenClaim := { program := "ytfcnpoamggbdfaa", sum := "615de57ab62c32c8d6f66d45ee84390cd768816ca88517e56bdb0d1a45237ea6", func := "exegete/exegetelaw01.UtfAscii", spec := "utfAscii", unfollowed := true, recurses := true, apart := false, narrowed := true }
def UtfAsciiUptoSaid : Prop := utfAsciiUptoRow.holds Try.pinned (OpenSpec.upto utfAsciiSpec)

/-- 'exegetelaw01.UtfUnits', WHERE WHAT IT READS IS OF BULK AT MOST 1048576: true; the input reads as it did. -/
def utfUnitsUptoRow : OpenClaim := { program := "ytfcnpoamggbdfaa", sum := "615de57ab62c32c8d6f66d45ee84390cd768816ca88517e56bdb0d1a45237ea6", func := "exegete/exegetelaw01.UtfUnits", spec := "utfUnits", unfollowed := true, recurses := true, apart := false, narrowed := true }
def UtfUnitsUptoSaid : Prop := utfUnitsUptoRow.holds Try.pinned (OpenSpec.upto utfUnitsSpec)

/-- 'exegetelaw01.UtfOrder', WHERE WHAT IT READS IS OF BULK AT MOST 1048576: true; the input reads as it did. -/
def utfOrderUptoRow : OpenClaim := { program := "ytfcnpoamggbdfaa", sum := "615de57ab62c32c8d6f66d45ee84390cd768816ca88517e56bdb0d1a45237ea6", func := "exegete/exegetelaw01.UtfOrder", spec := "utfOrder", unfollowed := true, recurses := true, apart := false, narrowed := true }
def UtfOrderUptoSaid : Prop := utfOrderUptoRow.holds Try.pinned (OpenSpec.upto utfOrderSpec)

/-- 'exegetelaw01.UtfCut', WHERE WHAT IT READS IS OF BULK AT MOST 1048576: true; the input reads as it did. -/
def utfCutUptoRow : OpenClaim := { program := "ytfcnpoamggbdfaa", sum := "615de57ab62c32c8d6f66d45ee84390cd768816ca88517e56bdb0d1a45237ea6", func := "exegete/exegetelaw01.UtfCut", spec := "utfCut", unfollowed := true, recurses := true, apart := false, narrowed := true }
def UtfCutUptoSaid : Prop := utfCutUptoRow.holds Try.pinned (OpenSpec.upto utfCutSpec)

/-- 'exegetelaw01.UtfJoin', WHERE WHAT IT READS IS OF BULK AT MOST 1048576: true; the input reads as it did. -/
def utfJoinUptoRow : OpenClaim := { program := "ytfcnpoamggbdfaa", sum := "615de57ab62c32c8d6f66d45ee84390cd768816ca88517e56bdb0d1a45237ea6", func := "exegete/exegetelaw01.UtfJoin", spec := "utfJoin", unfollowed := true, recurses := true, apart := false, narrowed := true }
def UtfJoinUptoSaid : Prop := utfJoinUptoRow.holds Try.pinned (OpenSpec.upto utfJoinSpec)

end Rows
end Go.Proofs.Ytfcnpoamggbdfaa
