/-
  NARROWER THAN 'FOR EVERY INPUT', by the rows' own cells (each row's printed sentence says how): LinesTell: laid · LinesCol: laid · LinesBound: laid · LinesEnds: laid · LinesLine: laid · LinesTabs: laid · LinesAhead: laid.
  DERIVED. THE GIVEN ROWS OF THIS SEAT. 7 by the template 'for every input the law returns true; each argument reads behind the call as it read before'; 0 by the template 'total and deterministic' (their statements: YtahabdogohdjeaaDoorTotals.lean).
  GIVEN WITH THE SEED: the statements are not yours to turn. If you find one false, say at which input.
  Laid BY PROGRAM, IN A SANDBOX (cutbox-rows.mjs): the forced cells as the released guide's own fill.sh prints them over the translation f867f541bd8e7b9a… (all of the seat's roots in one cut). By AI agents, Wed Nov 11 2026. No macro, syntax, notation, axiom, sorry.
-/
import Derived.Test.YtahabdogohdjeaaDoorChecked
import GoSem.PinnedTables
import GoSem.Claim
import GoSem.ClaimJoined
import GoSem.ClaimMapViews
import Derived.JoinedTies
import Derived.KernelRfl
namespace Go.Proofs.YtahabdogohdjeaaDoor
/- THE CELL 'sum', in the pinned program and in every row, IS THE sha256 OF THE DUMP (.gsa) THAT YtahabdogohdjeaaDoorProg.lean LOADS. Nothing in Lean hashes anything: it is a label: what it is worth is what the hold of that sum in a sandbox is worth. -/
noncomputable def Tryd.pinned : Pinned := { name := "ytahabdogohdjeaadoor", sum := "f867f541bd8e7b9a4a2c6837a18a69ecf84f011b05cb7fbb14677261493b0091", checked := Tryd.checked }
namespace Rows
def none {H : Type} : Left H := { results := [], args := [] }

/- WHAT THE LISTED PACKAGE-LEVEL VARIABLES READ AS WHEN THE CALL BEGINS. Each datum BY PROGRAM (the guide's laid-datum.mjs) off the statement by which the dump's own 'gosem.cut.vars' lays the variable. In a bare row this is a premise. The card (YtahabdogohdjeaaDoorCards.lean) ties it to the program's text. -/
def laid_unicode_utf8_acceptRanges {H : Type} : DataW H := .agg [.agg [.lit (.int .u8 128), .lit (.int .u8 191)], .agg [.lit (.int .u8 160), .lit (.int .u8 191)], .agg [.lit (.int .u8 128), .lit (.int .u8 159)], .agg [.lit (.int .u8 144), .lit (.int .u8 191)], .agg [.lit (.int .u8 128), .lit (.int .u8 143)], .agg [.lit (.int .u8 0), .lit (.int .u8 0)], .agg [.lit (.int .u8 0), .lit (.int .u8 0)], .agg [.lit (.int .u8 0), .lit (.int .u8 0)], .agg [.lit (.int .u8 0), .lit (.int .u8 0)], .agg [.lit (.int .u8 0), .lit (.int .u8 0)], .agg [.lit (.int .u8 0), .lit (.int .u8 0)], .agg [.lit (.int .u8 0), .lit (.int .u8 0)], .agg [.lit (.int .u8 0), .lit (.int .u8 0)], .agg [.lit (.int .u8 0), .lit (.int .u8 0)], .agg [.lit (.int .u8 0), .lit (.int .u8 0)], .agg [.lit (.int .u8 0), .lit (.int .u8 0)]]
/-- One of Go's own tables, pinned by name: the form's constant. -/
def laid_unicode_utf8_first : DataW Unit := Go.Pinned.utf8First

/-- 'exegetelaw04.LinesTell': WHATEVER THE INPUT: true; the input reads as it did. -/
def linesTellSpec : ChangeSpec := { name := "linesTell", fn := fun _ => fun
  | [d1, d2, d3] => { results := [.lit (.bool true)], args := [d1, d2, d3] }
  | _ => none }
def linesTellRow : OpenClaim := { program := "ytahabdogohdjeaadoor", sum := "f867f541bd8e7b9a4a2c6837a18a69ecf84f011b05cb7fbb14677261493b0091", func := "exegete/exegetelaw04.LinesTell", spec := "linesTell", unfollowed := true, recurses := true, named := ["unicode/utf8.first", "unicode/utf8.acceptRanges"], apart := false, laid := [("unicode/utf8.acceptRanges", laid_unicode_utf8_acceptRanges), ("unicode/utf8.first", laid_unicode_utf8_first)] }
def LinesTellSaid : Prop := linesTellRow.holds Tryd.pinned (OpenSpec.ofChange linesTellSpec)

/-- ITS FALSE NEIGHBOUR: 'it returns false'. Refute it at one input. -/
def linesTellWrong : ChangeSpec := { name := "linesTell", fn := fun _ => fun
  | [d1, d2, d3] => { results := [.lit (.bool false)], args := [d1, d2, d3] }
  | _ => none }
def LinesTellWrongFalsely : Prop := linesTellRow.holds Tryd.pinned (OpenSpec.ofChange linesTellWrong)

/-- 'exegetelaw04.LinesCol': WHATEVER THE INPUT: true; the input reads as it did. -/
def linesColSpec : ChangeSpec := { name := "linesCol", fn := fun _ => fun
  | [d1, d2, d3] => { results := [.lit (.bool true)], args := [d1, d2, d3] }
  | _ => none }
def linesColRow : OpenClaim := { program := "ytahabdogohdjeaadoor", sum := "f867f541bd8e7b9a4a2c6837a18a69ecf84f011b05cb7fbb14677261493b0091", func := "exegete/exegetelaw04.LinesCol", spec := "linesCol", unfollowed := true, recurses := true, named := ["unicode/utf8.first", "unicode/utf8.acceptRanges"], apart := false, laid := [("unicode/utf8.acceptRanges", laid_unicode_utf8_acceptRanges), ("unicode/utf8.first", laid_unicode_utf8_first)] }
def LinesColSaid : Prop := linesColRow.holds Tryd.pinned (OpenSpec.ofChange linesColSpec)

/-- ITS FALSE NEIGHBOUR: 'it returns false'. Refute it at one input. -/
def linesColWrong : ChangeSpec := { name := "linesCol", fn := fun _ => fun
  | [d1, d2, d3] => { results := [.lit (.bool false)], args := [d1, d2, d3] }
  | _ => none }
def LinesColWrongFalsely : Prop := linesColRow.holds Tryd.pinned (OpenSpec.ofChange linesColWrong)

/-- 'exegetelaw04.LinesBound': WHATEVER THE INPUT: true; the input reads as it did. -/
def linesBoundSpec : ChangeSpec := { name := "linesBound", fn := fun _ => fun
  | [d1, d2, d3] => { results := [.lit (.bool true)], args := [d1, d2, d3] }
  | _ => none }
def linesBoundRow : OpenClaim := { program := "ytahabdogohdjeaadoor", sum := "f867f541bd8e7b9a4a2c6837a18a69ecf84f011b05cb7fbb14677261493b0091", func := "exegete/exegetelaw04.LinesBound", spec := "linesBound", unfollowed := true, recurses := true, named := ["unicode/utf8.first", "unicode/utf8.acceptRanges"], apart := false, laid := [("unicode/utf8.acceptRanges", laid_unicode_utf8_acceptRanges), ("unicode/utf8.first", laid_unicode_utf8_first)] }
def LinesBoundSaid : Prop := linesBoundRow.holds Tryd.pinned (OpenSpec.ofChange linesBoundSpec)

/-- ITS FALSE NEIGHBOUR: 'it returns false'. Refute it at one input. -/
def linesBoundWrong : ChangeSpec := { name := "linesBound", fn := fun _ => fun
  | [d1, d2, d3] => { results := [.lit (.bool false)], args := [d1, d2, d3] }
  | _ => none }
def LinesBoundWrongFalsely : Prop := linesBoundRow.holds Tryd.pinned (OpenSpec.ofChange linesBoundWrong)

/-- 'exegetelaw04.LinesEnds': WHATEVER THE INPUT: true; the input reads as it did. -/
def linesEndsSpec : ChangeSpec := { name := "linesEnds", fn := fun _ => fun
  | [d] => { results := [.lit (.bool true)], args := [d] }
  | _ => none }
def linesEndsRow : OpenClaim := { program := "ytahabdogohdjeaadoor", sum := "f867f541bd8e7b9a4a2c6837a18a69ecf84f011b05cb7fbb14677261493b0091", func := "exegete/exegetelaw04.LinesEnds", spec := "linesEnds", unfollowed := true, recurses := true, named := ["unicode/utf8.first", "unicode/utf8.acceptRanges"], apart := false, laid := [("unicode/utf8.acceptRanges", laid_unicode_utf8_acceptRanges), ("unicode/utf8.first", laid_unicode_utf8_first)] }
def LinesEndsSaid : Prop := linesEndsRow.holds Tryd.pinned (OpenSpec.ofChange linesEndsSpec)

/-- ITS FALSE NEIGHBOUR: 'it returns false'. Refute it at one input. -/
def linesEndsWrong : ChangeSpec := { name := "linesEnds", fn := fun _ => fun
  | [d] => { results := [.lit (.bool false)], args := [d] }
  | _ => none }
def LinesEndsWrongFalsely : Prop := linesEndsRow.holds Tryd.pinned (OpenSpec.ofChange linesEndsWrong)

/-- 'exegetelaw04.LinesLine': WHATEVER THE INPUT: true; the input reads as it did. -/
def linesLineSpec : ChangeSpec := { name := "linesLine", fn := fun _ => fun
  | [d1, d2] => { results := [.lit (.bool true)], args := [d1, d2] }
  | _ => none }
def linesLineRow : OpenClaim := { program := "ytahabdogohdjeaadoor", sum := "f867f541bd8e7b9a4a2c6837a18a69ecf84f011b05cb7fbb14677261493b0091", func := "exegete/exegetelaw04.LinesLine", spec := "linesLine", unfollowed := true, recurses := true, named := ["unicode/utf8.first", "unicode/utf8.acceptRanges"], apart := false, laid := [("unicode/utf8.acceptRanges", laid_unicode_utf8_acceptRanges), ("unicode/utf8.first", laid_unicode_utf8_first)] }
def LinesLineSaid : Prop := linesLineRow.holds Tryd.pinned (OpenSpec.ofChange linesLineSpec)

/-- ITS FALSE NEIGHBOUR: 'it returns false'. Refute it at one input. -/
def linesLineWrong : ChangeSpec := { name := "linesLine", fn := fun _ => fun
  | [d1, d2] => { results := [.lit (.bool false)], args := [d1, d2] }
  | _ => none }
def LinesLineWrongFalsely : Prop := linesLineRow.holds Tryd.pinned (OpenSpec.ofChange linesLineWrong)

/-- 'exegetelaw04.LinesTabs': WHATEVER THE INPUT: true; the input reads as it did. -/
def linesTabsSpec : ChangeSpec := { name := "linesTabs", fn := fun _ => fun
  | [d1, d2, d3] => { results := [.lit (.bool true)], args := [d1, d2, d3] }
  | _ => none }
def linesTabsRow : OpenClaim := { program := "ytahabdogohdjeaadoor", sum := "f867f541bd8e7b9a4a2c6837a18a69ecf84f011b05cb7fbb14677261493b0091", func := "exegete/exegetelaw04.LinesTabs", spec := "linesTabs", unfollowed := true, recurses := true, named := ["unicode/utf8.first", "unicode/utf8.acceptRanges"], apart := false, laid := [("unicode/utf8.acceptRanges", laid_unicode_utf8_acceptRanges), ("unicode/utf8.first", laid_unicode_utf8_first)] }
def LinesTabsSaid : Prop := linesTabsRow.holds Tryd.pinned (OpenSpec.ofChange linesTabsSpec)

/-- ITS FALSE NEIGHBOUR: 'it returns false'. Refute it at one input. -/
def linesTabsWrong : ChangeSpec := { name := "linesTabs", fn := fun _ => fun
  | [d1, d2, d3] => { results := [.lit (.bool false)], args := [d1, d2, d3] }
  | _ => none }
def LinesTabsWrongFalsely : Prop := linesTabsRow.holds Tryd.pinned (OpenSpec.ofChange linesTabsWrong)

/-- 'exegetelaw04.LinesAhead': WHATEVER THE INPUT: true; the input reads as it did. -/
def linesAheadSpec : ChangeSpec := { name := "linesAhead", fn := fun _ => fun
  | [d1, d2, d3, d4] => { results := [.lit (.bool true)], args := [d1, d2, d3, d4] }
  | _ => none }
def linesAheadRow : OpenClaim := { program := "ytahabdogohdjeaadoor", sum := "f867f541bd8e7b9a4a2c6837a18a69ecf84f011b05cb7fbb14677261493b0091", func := "exegete/exegetelaw04.LinesAhead", spec := "linesAhead", unfollowed := true, recurses := true, named := ["unicode/utf8.first", "unicode/utf8.acceptRanges"], apart := false, laid := [("unicode/utf8.acceptRanges", laid_unicode_utf8_acceptRanges), ("unicode/utf8.first", laid_unicode_utf8_first)] }
def LinesAheadSaid : Prop := linesAheadRow.holds Tryd.pinned (OpenSpec.ofChange linesAheadSpec)

/-- ITS FALSE NEIGHBOUR: 'it returns false'. Refute it at one input. -/
def linesAheadWrong : ChangeSpec := { name := "linesAhead", fn := fun _ => fun
  | [d1, d2, d3, d4] => { results := [.lit (.bool false)], args := [d1, d2, d3, d4] }
  | _ => none }
def LinesAheadWrongFalsely : Prop := linesAheadRow.holds Tryd.pinned (OpenSpec.ofChange linesAheadWrong)

/- THE SECOND FORM. 'bulk': how many values and letters a reading holds, each counted each time it is reached (what is shared counts as often as it is met; a slice's spare places count too). A statement '..UptoSaid' is the law's where the arguments, and the package variables that the reading takes, are together of bulk at most 1048576: NARROWER than '..Said'. Prove '..Said' where nothing that the law and all that it calls make is longer than what came in: it says more and counts as full. Else prove '..UptoSaid'. A law counts once. -/
mutual
def uptoBulk {H : Type} : DataW H → Nat
  | .lit (.string bytes) => bytes.length + 1
  | .lit _ => 1
  | .nil => 1
  | .ptr d => uptoBulk d + 1
  | .slice elems spare => uptoBulkAll elems + uptoBulkAll spare + 1
  | .agg parts => uptoBulkAll parts + 1
  | .iface _ d => uptoBulk d + 1
  | .map entries => uptoBulkEntries entries + 1
  | .held _ => 1
def uptoBulkAll {H : Type} : List (DataW H) → Nat
  | [] => 0
  | d :: r => uptoBulk d + uptoBulkAll r
def uptoBulkEntries {H : Type} : List (Lit × DataW H) → Nat
  | [] => 0
  | x :: r => uptoBulkEntry x + uptoBulkEntries r
def uptoBulkEntry {H : Type} : Lit × DataW H → Nat
  | (.string bytes, d) => bytes.length + uptoBulk d + 1
  | (_, d) => uptoBulk d + 1
 end
def uptoSmall : (H : Type) → List (DataW H) → Bool := fun _ ds => decide (uptoBulkAll ds ≤ 1048576)
def OpenSpec.upto (s : _root_.Go.ChangeSpec) : _root_.Go.OpenSpec := { _root_.Go.OpenSpec.ofChange s with cond := some uptoSmall }

/-- 'exegetelaw04.LinesTell', WHERE WHAT IT READS IS OF BULK AT MOST 1048576: true; the input reads as it did. -/
def linesTellUptoRow : OpenClaim := { program := "ytahabdogohdjeaadoor", sum := "f867f541bd8e7b9a4a2c6837a18a69ecf84f011b05cb7fbb14677261493b0091", func := "exegete/exegetelaw04.LinesTell", spec := "linesTell", unfollowed := true, recurses := true, named := ["unicode/utf8.first", "unicode/utf8.acceptRanges"], apart := false, laid := [("unicode/utf8.acceptRanges", laid_unicode_utf8_acceptRanges), ("unicode/utf8.first", laid_unicode_utf8_first)], narrowed := true }
def LinesTellUptoSaid : Prop := linesTellUptoRow.holds Tryd.pinned (OpenSpec.upto linesTellSpec)

/-- 'exegetelaw04.LinesCol', WHERE WHAT IT READS IS OF BULK AT MOST 1048576: true; the input reads as it did. -/
def linesColUptoRow : OpenClaim := { program := "ytahabdogohdjeaadoor", sum := "f867f541bd8e7b9a4a2c6837a18a69ecf84f011b05cb7fbb14677261493b0091", func := "exegete/exegetelaw04.LinesCol", spec := "linesCol", unfollowed := true, recurses := true, named := ["unicode/utf8.first", "unicode/utf8.acceptRanges"], apart := false, laid := [("unicode/utf8.acceptRanges", laid_unicode_utf8_acceptRanges), ("unicode/utf8.first", laid_unicode_utf8_first)], narrowed := true }
def LinesColUptoSaid : Prop := linesColUptoRow.holds Tryd.pinned (OpenSpec.upto linesColSpec)

/-- 'exegetelaw04.LinesBound', WHERE WHAT IT READS IS OF BULK AT MOST 1048576: true; the input reads as it did. -/
def linesBoundUptoRow : OpenClaim := { program := "ytahabdogohdjeaadoor", sum := "f867f541bd8e7b9a4a2c6837a18a69ecf84f011b05cb7fbb14677261493b0091", func := "exegete/exegetelaw04.LinesBound", spec := "linesBound", unfollowed := true, recurses := true, named := ["unicode/utf8.first", "unicode/utf8.acceptRanges"], apart := false, laid := [("unicode/utf8.acceptRanges", laid_unicode_utf8_acceptRanges), ("unicode/utf8.first", laid_unicode_utf8_first)], narrowed := true }
def LinesBoundUptoSaid : Prop := linesBoundUptoRow.holds Tryd.pinned (OpenSpec.upto linesBoundSpec)

/-- 'exegetelaw04.LinesEnds', WHERE WHAT IT READS IS OF BULK AT MOST 1048576: true; the input reads as it did. -/
def linesEndsUptoRow : OpenClaim := { program := "ytahabdogohdjeaadoor", sum := "f867f541bd8e7b9a4a2c6837a18a69ecf84f011b05cb7fbb14677261493b0091", func := "exegete/exegetelaw04.LinesEnds", spec := "linesEnds", unfollowed := true, recurses := true, named := ["unicode/utf8.first", "unicode/utf8.acceptRanges"], apart := false, laid := [("unicode/utf8.acceptRanges", laid_unicode_utf8_acceptRanges), ("unicode/utf8.first", laid_unicode_utf8_first)], narrowed := true }
def LinesEndsUptoSaid : Prop := linesEndsUptoRow.holds Tryd.pinned (OpenSpec.upto linesEndsSpec)

/-- 'exegetelaw04.LinesLine', WHERE WHAT IT READS IS OF BULK AT MOST 1048576: true; the input reads as it did. -/
def linesLineUptoRow : OpenClaim := { program := "ytahabdogohdjeaadoor", sum := "f867f541bd8e7b9a4a2c6837a18a69ecf84f011b05cb7fbb14677261493b0091", func := "exegete/exegetelaw04.LinesLine", spec := "linesLine", unfollowed := true, recurses := true, named := ["unicode/utf8.first", "unicode/utf8.acceptRanges"], apart := false, laid := [("unicode/utf8.acceptRanges", laid_unicode_utf8_acceptRanges), ("unicode/utf8.first", laid_unicode_utf8_first)], narrowed := true }
def LinesLineUptoSaid : Prop := linesLineUptoRow.holds Tryd.pinned (OpenSpec.upto linesLineSpec)

/-- 'exegetelaw04.LinesTabs', WHERE WHAT IT READS IS OF BULK AT MOST 1048576: true; the input reads as it did. -/
def linesTabsUptoRow : OpenClaim := { program := "ytahabdogohdjeaadoor", sum := "f867f541bd8e7b9a4a2c6837a18a69ecf84f011b05cb7fbb14677261493b0091", func := "exegete/exegetelaw04.LinesTabs", spec := "linesTabs", unfollowed := true, recurses := true, named := ["unicode/utf8.first", "unicode/utf8.acceptRanges"], apart := false, laid := [("unicode/utf8.acceptRanges", laid_unicode_utf8_acceptRanges), ("unicode/utf8.first", laid_unicode_utf8_first)], narrowed := true }
def LinesTabsUptoSaid : Prop := linesTabsUptoRow.holds Tryd.pinned (OpenSpec.upto linesTabsSpec)

/-- 'exegetelaw04.LinesAhead', WHERE WHAT IT READS IS OF BULK AT MOST 1048576: true; the input reads as it did. -/
def linesAheadUptoRow : OpenClaim := { program := "ytahabdogohdjeaadoor", sum := "f867f541bd8e7b9a4a2c6837a18a69ecf84f011b05cb7fbb14677261493b0091", func := "exegete/exegetelaw04.LinesAhead", spec := "linesAhead", unfollowed := true, recurses := true, named := ["unicode/utf8.first", "unicode/utf8.acceptRanges"], apart := false, laid := [("unicode/utf8.acceptRanges", laid_unicode_utf8_acceptRanges), ("unicode/utf8.first", laid_unicode_utf8_first)], narrowed := true }
def LinesAheadUptoSaid : Prop := linesAheadUptoRow.holds Tryd.pinned (OpenSpec.upto linesAheadSpec)

end Rows
end Go.Proofs.YtahabdogohdjeaaDoor
