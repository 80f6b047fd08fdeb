/-
  No cell of these rows narrows 'for every input' (looked for: loops, veiled, ifaces, maps, wideKeys, modest, calm, conditions, laid).
  DERIVED. THE GIVEN ROWS OF THIS SEAT. 8 by the template 'for every input the law returns true; each argument reads behind the call as it read before'; 0 by the template 'total and deterministic' (their statements: YtnfekgjkgiobfaaTotals.lean).
  GIVEN WITH THE SEED: the statements are not yours to turn. If you find one false, say at which input.
  Laid BY PROGRAM, IN A SANDBOX (cutbox-rows.mjs): the forced cells as the released guide's own fill.sh prints them over the translation 22bf06482215b468… (all of the seat's roots in one cut). By AI agents, Wed Nov 11 2026. No macro, syntax, notation, axiom, sorry.
-/
import Derived.Test.YtnfekgjkgiobfaaChecked
import GoSem.Claim
import GoSem.ClaimJoined
import GoSem.ClaimMapViews
import Derived.JoinedTies
import Derived.KernelRfl
namespace Go.Proofs.Ytnfekgjkgiobfaa
/- THE CELL 'sum', in the pinned program and in every row, IS THE sha256 OF THE DUMP (.gsa) THAT YtnfekgjkgiobfaaProg.lean LOADS. Nothing in Lean hashes anything: it is a label: what it is worth is what the hold of that sum in a sandbox is worth. -/
noncomputable def Try.pinned : Pinned := { name := "ytnfekgjkgiobfaa", sum := "22bf06482215b468ab8580af54ba0f743d89a3eab43431b0a9c176330f45622f", checked := Try.checked }
namespace Rows
def none {H : Type} : Left H := { results := [], args := [] }

/-- 'exegetelaw02.RangesTell': WHATEVER THE INPUT: true; the input reads as it did. -/
def rangesTellSpec : ChangeSpec := { name := "rangesTell", fn := fun _ => fun
  | [d1, d2, d3] => { results := [.lit (.bool true)], args := [d1, d2, d3] }
  | _ => none }
def rangesTellRow : OpenClaim := { program := "ytnfekgjkgiobfaa", sum := "22bf06482215b468ab8580af54ba0f743d89a3eab43431b0a9c176330f45622f", func := "exegete/exegetelaw02.RangesTell", spec := "rangesTell", unfollowed := true, recurses := true, apart := false }
def RangesTellSaid : Prop := rangesTellRow.holds Try.pinned (OpenSpec.ofChange rangesTellSpec)

/-- ITS FALSE NEIGHBOUR: 'it returns false'. Refute it at one input. -/
def rangesTellWrong : ChangeSpec := { name := "rangesTell", fn := fun _ => fun
  | [d1, d2, d3] => { results := [.lit (.bool false)], args := [d1, d2, d3] }
  | _ => none }
def RangesTellWrongFalsely : Prop := rangesTellRow.holds Try.pinned (OpenSpec.ofChange rangesTellWrong)

/-- 'exegetelaw02.RangesOne': WHATEVER THE INPUT: true; the input reads as it did. -/
def rangesOneSpec : ChangeSpec := { name := "rangesOne", fn := fun _ => fun
  | [d1, d2, d3] => { results := [.lit (.bool true)], args := [d1, d2, d3] }
  | _ => none }
def rangesOneRow : OpenClaim := { program := "ytnfekgjkgiobfaa", sum := "22bf06482215b468ab8580af54ba0f743d89a3eab43431b0a9c176330f45622f", func := "exegete/exegetelaw02.RangesOne", spec := "rangesOne", unfollowed := true, recurses := true, apart := false }
def RangesOneSaid : Prop := rangesOneRow.holds Try.pinned (OpenSpec.ofChange rangesOneSpec)

/-- ITS FALSE NEIGHBOUR: 'it returns false'. Refute it at one input. -/
def rangesOneWrong : ChangeSpec := { name := "rangesOne", fn := fun _ => fun
  | [d1, d2, d3] => { results := [.lit (.bool false)], args := [d1, d2, d3] }
  | _ => none }
def RangesOneWrongFalsely : Prop := rangesOneRow.holds Try.pinned (OpenSpec.ofChange rangesOneWrong)

/-- 'exegetelaw02.RangesSet': WHATEVER THE INPUT: true; the input reads as it did. -/
def rangesSetSpec : ChangeSpec := { name := "rangesSet", fn := fun _ => fun
  | [d1, d2, d3] => { results := [.lit (.bool true)], args := [d1, d2, d3] }
  | _ => none }
def rangesSetRow : OpenClaim := { program := "ytnfekgjkgiobfaa", sum := "22bf06482215b468ab8580af54ba0f743d89a3eab43431b0a9c176330f45622f", func := "exegete/exegetelaw02.RangesSet", spec := "rangesSet", unfollowed := true, recurses := true, apart := false }
def RangesSetSaid : Prop := rangesSetRow.holds Try.pinned (OpenSpec.ofChange rangesSetSpec)

/-- ITS FALSE NEIGHBOUR: 'it returns false'. Refute it at one input. -/
def rangesSetWrong : ChangeSpec := { name := "rangesSet", fn := fun _ => fun
  | [d1, d2, d3] => { results := [.lit (.bool false)], args := [d1, d2, d3] }
  | _ => none }
def RangesSetWrongFalsely : Prop := rangesSetRow.holds Try.pinned (OpenSpec.ofChange rangesSetWrong)

/-- 'exegetelaw02.RangesHas': WHATEVER THE INPUT: true; the input reads as it did. -/
def rangesHasSpec : ChangeSpec := { name := "rangesHas", fn := fun _ => fun
  | [d1, d2, d3] => { results := [.lit (.bool true)], args := [d1, d2, d3] }
  | _ => none }
def rangesHasRow : OpenClaim := { program := "ytnfekgjkgiobfaa", sum := "22bf06482215b468ab8580af54ba0f743d89a3eab43431b0a9c176330f45622f", func := "exegete/exegetelaw02.RangesHas", spec := "rangesHas", unfollowed := true, recurses := true, apart := false }
def RangesHasSaid : Prop := rangesHasRow.holds Try.pinned (OpenSpec.ofChange rangesHasSpec)

/-- ITS FALSE NEIGHBOUR: 'it returns false'. Refute it at one input. -/
def rangesHasWrong : ChangeSpec := { name := "rangesHas", fn := fun _ => fun
  | [d1, d2, d3] => { results := [.lit (.bool false)], args := [d1, d2, d3] }
  | _ => none }
def RangesHasWrongFalsely : Prop := rangesHasRow.holds Try.pinned (OpenSpec.ofChange rangesHasWrong)

/-- 'exegetelaw02.RangesSize': WHATEVER THE INPUT: true; the input reads as it did. -/
def rangesSizeSpec : ChangeSpec := { name := "rangesSize", fn := fun _ => fun
  | [d1, d2] => { results := [.lit (.bool true)], args := [d1, d2] }
  | _ => none }
def rangesSizeRow : OpenClaim := { program := "ytnfekgjkgiobfaa", sum := "22bf06482215b468ab8580af54ba0f743d89a3eab43431b0a9c176330f45622f", func := "exegete/exegetelaw02.RangesSize", spec := "rangesSize", unfollowed := true, recurses := true, apart := false }
def RangesSizeSaid : Prop := rangesSizeRow.holds Try.pinned (OpenSpec.ofChange rangesSizeSpec)

/-- ITS FALSE NEIGHBOUR: 'it returns false'. Refute it at one input. -/
def rangesSizeWrong : ChangeSpec := { name := "rangesSize", fn := fun _ => fun
  | [d1, d2] => { results := [.lit (.bool false)], args := [d1, d2] }
  | _ => none }
def RangesSizeWrongFalsely : Prop := rangesSizeRow.holds Try.pinned (OpenSpec.ofChange rangesSizeWrong)

/-- 'exegetelaw02.RangesOrder': WHATEVER THE INPUT: true; the input reads as it did. -/
def rangesOrderSpec : ChangeSpec := { name := "rangesOrder", fn := fun _ => fun
  | [d1, d2] => { results := [.lit (.bool true)], args := [d1, d2] }
  | _ => none }
def rangesOrderRow : OpenClaim := { program := "ytnfekgjkgiobfaa", sum := "22bf06482215b468ab8580af54ba0f743d89a3eab43431b0a9c176330f45622f", func := "exegete/exegetelaw02.RangesOrder", spec := "rangesOrder", unfollowed := true, recurses := true, apart := false }
def RangesOrderSaid : Prop := rangesOrderRow.holds Try.pinned (OpenSpec.ofChange rangesOrderSpec)

/-- ITS FALSE NEIGHBOUR: 'it returns false'. Refute it at one input. -/
def rangesOrderWrong : ChangeSpec := { name := "rangesOrder", fn := fun _ => fun
  | [d1, d2] => { results := [.lit (.bool false)], args := [d1, d2] }
  | _ => none }
def RangesOrderWrongFalsely : Prop := rangesOrderRow.holds Try.pinned (OpenSpec.ofChange rangesOrderWrong)

/-- 'exegetelaw02.RangesTwice': WHATEVER THE INPUT: true; the input reads as it did. -/
def rangesTwiceSpec : ChangeSpec := { name := "rangesTwice", fn := fun _ => fun
  | [d1, d2, d3] => { results := [.lit (.bool true)], args := [d1, d2, d3] }
  | _ => none }
def rangesTwiceRow : OpenClaim := { program := "ytnfekgjkgiobfaa", sum := "22bf06482215b468ab8580af54ba0f743d89a3eab43431b0a9c176330f45622f", func := "exegete/exegetelaw02.RangesTwice", spec := "rangesTwice", unfollowed := true, recurses := true, apart := false }
def RangesTwiceSaid : Prop := rangesTwiceRow.holds Try.pinned (OpenSpec.ofChange rangesTwiceSpec)

/-- ITS FALSE NEIGHBOUR: 'it returns false'. Refute it at one input. -/
def rangesTwiceWrong : ChangeSpec := { name := "rangesTwice", fn := fun _ => fun
  | [d1, d2, d3] => { results := [.lit (.bool false)], args := [d1, d2, d3] }
  | _ => none }
def RangesTwiceWrongFalsely : Prop := rangesTwiceRow.holds Try.pinned (OpenSpec.ofChange rangesTwiceWrong)

/-- 'exegetelaw02.RangesPart': WHATEVER THE INPUT: true; the input reads as it did. -/
def rangesPartSpec : ChangeSpec := { name := "rangesPart", fn := fun _ => fun
  | [d1, d2] => { results := [.lit (.bool true)], args := [d1, d2] }
  | _ => none }
def rangesPartRow : OpenClaim := { program := "ytnfekgjkgiobfaa", sum := "22bf06482215b468ab8580af54ba0f743d89a3eab43431b0a9c176330f45622f", func := "exegete/exegetelaw02.RangesPart", spec := "rangesPart", unfollowed := true, recurses := true, apart := false }
def RangesPartSaid : Prop := rangesPartRow.holds Try.pinned (OpenSpec.ofChange rangesPartSpec)

/-- ITS FALSE NEIGHBOUR: 'it returns false'. Refute it at one input. -/
def rangesPartWrong : ChangeSpec := { name := "rangesPart", fn := fun _ => fun
  | [d1, d2] => { results := [.lit (.bool false)], args := [d1, d2] }
  | _ => none }
def RangesPartWrongFalsely : Prop := rangesPartRow.holds Try.pinned (OpenSpec.ofChange rangesPartWrong)

/- THE SECOND FORM. 'bulk': how many values and letters a reading holds, each counted each time it is reached (what is shared counts as often as it is met; a slice's spare places count too). A statement '..UptoSaid' is the law's where the arguments, and the package variables that the reading takes, are together of bulk at most 1048576: NARROWER than '..Said'. Prove '..Said' where nothing that the law and all that it calls make is longer than what came in: it says more and counts as full. Else prove '..UptoSaid'. A law counts once. -/
mutual
def uptoBulk {H : Type} : DataW H → Nat
  | .lit (.string bytes) => bytes.length + 1
  | .lit _ => 1
  | .nil => 1
  | .ptr d => uptoBulk d + 1
  | .slice elems spare => uptoBulkAll elems + uptoBulkAll spare + 1
  | .agg parts => uptoBulkAll parts + 1
  | .iface _ d => uptoBulk d + 1
  | .map entries => uptoBulkEntries entries + 1
  | .held _ => 1
def uptoBulkAll {H : Type} : List (DataW H) → Nat
  | [] => 0
  | d :: r => uptoBulk d + uptoBulkAll r
def uptoBulkEntries {H : Type} : List (Lit × DataW H) → Nat
  | [] => 0
  | x :: r => uptoBulkEntry x + uptoBulkEntries r
def uptoBulkEntry {H : Type} : Lit × DataW H → Nat
  | (.string bytes, d) => bytes.length + uptoBulk d + 1
  | (_, d) => uptoBulk d + 1
 end
def uptoSmall : (H : Type) → List (DataW H) → Bool := fun _ ds => decide (uptoBulkAll ds ≤ 1048576)
def OpenSpec.upto (s : _root_.Go.ChangeSpec) : _root_.Go.OpenSpec := { _root_.Go.OpenSpec.ofChange s with cond := some uptoSmall }

/-- 'exegetelaw02.RangesTell', WHERE WHAT IT READS IS OF BULK AT MOST 1048576: true; the input reads as it did. -/
def rangesTellUptoRow : OpenClaim := { program := "ytnfekgjkgiobfaa", sum := "22bf06482215b468ab8580af54ba0f743d89a3eab43431b0a9c176330f45622f", func := "exegete/exegetelaw02.RangesTell", spec := "rangesTell", unfollowed := true, recurses := true, apart := false, narrowed := true }
def RangesTellUptoSaid : Prop := rangesTellUptoRow.holds Try.pinned (OpenSpec.upto rangesTellSpec)

/-- 'exegetelaw02.RangesOne', WHERE WHAT IT READS IS OF BULK AT MOST 1048576: true; the input reads as it did. -/
def rangesOneUptoRow : OpenClaim := { program := "ytnfekgjkgiobfaa", sum := "22bf06482215b468ab8580af54ba0f743d89a3eab43431b0a9c176330f45622f", func := "exegete/exegetelaw02.RangesOne", spec := "rangesOne", unfollowed := true, recurses := true, apart := false, narrowed := true }
def RangesOneUptoSaid : Prop := rangesOneUptoRow.holds Try.pinned (OpenSpec.upto rangesOneSpec)

/-- 'exegetelaw02.RangesSet', WHERE WHAT IT READS IS OF BULK AT MOST 1048576: true; the input reads as it did. -/
def rangesSetUptoRow : OpenClaim := { program := "ytnfekgjkgiobfaa", sum := "22bf06482215b468ab8580af54ba0f743d89a3eab43431b0a9c176330f45622f", func := "exegete/exegetelaw02.RangesSet", spec := "rangesSet", unfollowed := true, recurses := true, apart := false, narrowed := true }
def RangesSetUptoSaid : Prop := rangesSetUptoRow.holds Try.pinned (OpenSpec.upto rangesSetSpec)

/-- 'exegetelaw02.RangesHas', WHERE WHAT IT READS IS OF BULK AT MOST 1048576: true; the input reads as it did. -/
def rangesHasUptoRow : OpenClaim := { program := "ytnfekgjkgiobfaa", sum := "22bf06482215b468ab8580af54ba0f743d89a3eab43431b0a9c176330f45622f", func := "exegete/exegetelaw02.RangesHas", spec := "rangesHas", unfollowed := true, recurses := true, apart := false, narrowed := true }
def RangesHasUptoSaid : Prop := rangesHasUptoRow.holds Try.pinned (OpenSpec.upto rangesHasSpec)

/-- 'exegetelaw02.RangesSize', WHERE WHAT IT READS IS OF BULK AT MOST 1048576: true; the input reads as it did. -/
def rangesSizeUptoRow : OpenClaim := { program := "ytnfekgjkgiobfaa", sum := "22bf06482215b468ab8580af54ba0f743d89a3eab43431b0a9c176330f45622f", func := "exegete/exegetelaw02.RangesSize", spec := "rangesSize", unfollowed := true, recurses := true, apart := false, narrowed := true }
def RangesSizeUptoSaid : Prop := rangesSizeUptoRow.holds Try.pinned (OpenSpec.upto rangesSizeSpec)

/-- 'exegetelaw02.RangesOrder', WHERE WHAT IT READS IS OF BULK AT MOST 1048576: true; the input reads as it did. -/
def rangesOrderUptoRow : OpenClaim := { program := "ytnfekgjkgiobfaa", sum := "22bf06482215b468ab8580af54ba0f743d89a3eab43431b0a9c176330f45622f", func := "exegete/exegetelaw02.RangesOrder", spec := "rangesOrder", unfollowed := true, recurses := true, apart := false, narrowed := true }
def RangesOrderUptoSaid : Prop := rangesOrderUptoRow.holds Try.pinned (OpenSpec.upto rangesOrderSpec)

/-- 'exegetelaw02.RangesTwice', WHERE WHAT IT READS IS OF BULK AT MOST 1048576: true; the input reads as it did. -/
def rangesTwiceUptoRow : OpenClaim := { program := "ytnfekgjkgiobfaa", sum := "22bf06482215b468ab8580af54ba0f743d89a3eab43431b0a9c176330f45622f", func := "exegete/exegetelaw02.RangesTwice", spec := "rangesTwice", unfollowed := true, recurses := true, apart := false, narrowed := true }
def RangesTwiceUptoSaid : Prop := rangesTwiceUptoRow.holds Try.pinned (OpenSpec.upto rangesTwiceSpec)

/-- 'exegetelaw02.RangesPart', WHERE WHAT IT READS IS OF BULK AT MOST 1048576: true; the input reads as it did. -/
def rangesPartUptoRow : OpenClaim := { program := "ytnfekgjkgiobfaa", sum := "22bf06482215b468ab8580af54ba0f743d89a3eab43431b0a9c176330f45622f", func := "exegete/exegetelaw02.RangesPart", spec := "rangesPart", unfollowed := true, recurses := true, apart := false, narrowed := true }
def RangesPartUptoSaid : Prop := rangesPartUptoRow.holds Try.pinned (OpenSpec.upto rangesPartSpec)

end Rows
end Go.Proofs.Ytnfekgjkgiobfaa
