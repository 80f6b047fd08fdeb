/-
  DERIVED. GIVEN WITH THE SEED: THE CARDS: each row of YtahabdogohdjeaaDoorRows.lean that lists a variable, with what it lists TIED to the program's text (the seventh form; the later family's looks); each row that meets fmt, with fmt's text TOLD by the authors' own Lean function (tested against real Go, not proved from fmt's source: count such statements apart). THE CARD IS WHAT COUNTS. Prove the row's statement (the work); the ties are given (YtahabdogohdjeaaDoorTie.lean); close each card by the builder's one call (the guide's Derived/Test/ToyasCard.lean, 'card_holds'). Laid BY PROGRAM, IN A SANDBOX (cutbox-door.mjs). By AI agents, Wed Nov 11 2026. No macro, syntax, notation, axiom, sorry.
-/
import Derived.Test.YtahabdogohdjeaaDoorRows
import GoSem.ClaimSeven
namespace Go.Proofs.YtahabdogohdjeaaDoor
namespace Rows

/-- THE TIED CARD OF 'exegetelaw04.LinesTell'. -/
def linesTellCard : Claim7 := { stood := { row := linesTellRow, standIns := [], harness := (true, "9dcfaa1f46d7686a38f6dbb068b157fc6900a996cd2954bab1b8bebc869eaed6"), looks := false }, kinds := [], alts := [], laidByText := true, laidKinds := [.data, .pinned], laidTests := true, laidLooks := .later }
def LinesTellCardSaid : Prop := Claim7.holds Tryd.pinned (.plain (OpenSpec.ofChange linesTellSpec)) linesTellCard

/-- THE TIED CARD OF 'exegetelaw04.LinesCol'. -/
def linesColCard : Claim7 := { stood := { row := linesColRow, standIns := [], harness := (true, "9dcfaa1f46d7686a38f6dbb068b157fc6900a996cd2954bab1b8bebc869eaed6"), looks := false }, kinds := [], alts := [], laidByText := true, laidKinds := [.data, .pinned], laidTests := true, laidLooks := .later }
def LinesColCardSaid : Prop := Claim7.holds Tryd.pinned (.plain (OpenSpec.ofChange linesColSpec)) linesColCard

/-- THE TIED CARD OF 'exegetelaw04.LinesBound'. -/
def linesBoundCard : Claim7 := { stood := { row := linesBoundRow, standIns := [], harness := (true, "9dcfaa1f46d7686a38f6dbb068b157fc6900a996cd2954bab1b8bebc869eaed6"), looks := false }, kinds := [], alts := [], laidByText := true, laidKinds := [.data, .pinned], laidTests := true, laidLooks := .later }
def LinesBoundCardSaid : Prop := Claim7.holds Tryd.pinned (.plain (OpenSpec.ofChange linesBoundSpec)) linesBoundCard

/-- THE TIED CARD OF 'exegetelaw04.LinesEnds'. -/
def linesEndsCard : Claim7 := { stood := { row := linesEndsRow, standIns := [], harness := (true, "9dcfaa1f46d7686a38f6dbb068b157fc6900a996cd2954bab1b8bebc869eaed6"), looks := false }, kinds := [], alts := [], laidByText := true, laidKinds := [.data, .pinned], laidTests := true, laidLooks := .later }
def LinesEndsCardSaid : Prop := Claim7.holds Tryd.pinned (.plain (OpenSpec.ofChange linesEndsSpec)) linesEndsCard

/-- THE TIED CARD OF 'exegetelaw04.LinesLine'. -/
def linesLineCard : Claim7 := { stood := { row := linesLineRow, standIns := [], harness := (true, "9dcfaa1f46d7686a38f6dbb068b157fc6900a996cd2954bab1b8bebc869eaed6"), looks := false }, kinds := [], alts := [], laidByText := true, laidKinds := [.data, .pinned], laidTests := true, laidLooks := .later }
def LinesLineCardSaid : Prop := Claim7.holds Tryd.pinned (.plain (OpenSpec.ofChange linesLineSpec)) linesLineCard

/-- THE TIED CARD OF 'exegetelaw04.LinesTabs'. -/
def linesTabsCard : Claim7 := { stood := { row := linesTabsRow, standIns := [], harness := (true, "9dcfaa1f46d7686a38f6dbb068b157fc6900a996cd2954bab1b8bebc869eaed6"), looks := false }, kinds := [], alts := [], laidByText := true, laidKinds := [.data, .pinned], laidTests := true, laidLooks := .later }
def LinesTabsCardSaid : Prop := Claim7.holds Tryd.pinned (.plain (OpenSpec.ofChange linesTabsSpec)) linesTabsCard

/-- THE TIED CARD OF 'exegetelaw04.LinesAhead'. -/
def linesAheadCard : Claim7 := { stood := { row := linesAheadRow, standIns := [], harness := (true, "9dcfaa1f46d7686a38f6dbb068b157fc6900a996cd2954bab1b8bebc869eaed6"), looks := false }, kinds := [], alts := [], laidByText := true, laidKinds := [.data, .pinned], laidTests := true, laidLooks := .later }
def LinesAheadCardSaid : Prop := Claim7.holds Tryd.pinned (.plain (OpenSpec.ofChange linesAheadSpec)) linesAheadCard

/-- THE SECOND FORM's CARD OF 'exegetelaw04.LinesTell'. -/
def linesTellUptoCard : Claim7 := { stood := { row := linesTellUptoRow, standIns := [], harness := (true, "9dcfaa1f46d7686a38f6dbb068b157fc6900a996cd2954bab1b8bebc869eaed6"), looks := false }, kinds := [], alts := [], laidByText := true, laidKinds := [.data, .pinned], laidTests := true, laidLooks := .later }
def LinesTellUptoCardSaid : Prop := Claim7.holds Tryd.pinned (.plain (OpenSpec.upto linesTellSpec)) linesTellUptoCard

/-- THE SECOND FORM's CARD OF 'exegetelaw04.LinesCol'. -/
def linesColUptoCard : Claim7 := { stood := { row := linesColUptoRow, standIns := [], harness := (true, "9dcfaa1f46d7686a38f6dbb068b157fc6900a996cd2954bab1b8bebc869eaed6"), looks := false }, kinds := [], alts := [], laidByText := true, laidKinds := [.data, .pinned], laidTests := true, laidLooks := .later }
def LinesColUptoCardSaid : Prop := Claim7.holds Tryd.pinned (.plain (OpenSpec.upto linesColSpec)) linesColUptoCard

/-- THE SECOND FORM's CARD OF 'exegetelaw04.LinesBound'. -/
def linesBoundUptoCard : Claim7 := { stood := { row := linesBoundUptoRow, standIns := [], harness := (true, "9dcfaa1f46d7686a38f6dbb068b157fc6900a996cd2954bab1b8bebc869eaed6"), looks := false }, kinds := [], alts := [], laidByText := true, laidKinds := [.data, .pinned], laidTests := true, laidLooks := .later }
def LinesBoundUptoCardSaid : Prop := Claim7.holds Tryd.pinned (.plain (OpenSpec.upto linesBoundSpec)) linesBoundUptoCard

/-- THE SECOND FORM's CARD OF 'exegetelaw04.LinesEnds'. -/
def linesEndsUptoCard : Claim7 := { stood := { row := linesEndsUptoRow, standIns := [], harness := (true, "9dcfaa1f46d7686a38f6dbb068b157fc6900a996cd2954bab1b8bebc869eaed6"), looks := false }, kinds := [], alts := [], laidByText := true, laidKinds := [.data, .pinned], laidTests := true, laidLooks := .later }
def LinesEndsUptoCardSaid : Prop := Claim7.holds Tryd.pinned (.plain (OpenSpec.upto linesEndsSpec)) linesEndsUptoCard

/-- THE SECOND FORM's CARD OF 'exegetelaw04.LinesLine'. -/
def linesLineUptoCard : Claim7 := { stood := { row := linesLineUptoRow, standIns := [], harness := (true, "9dcfaa1f46d7686a38f6dbb068b157fc6900a996cd2954bab1b8bebc869eaed6"), looks := false }, kinds := [], alts := [], laidByText := true, laidKinds := [.data, .pinned], laidTests := true, laidLooks := .later }
def LinesLineUptoCardSaid : Prop := Claim7.holds Tryd.pinned (.plain (OpenSpec.upto linesLineSpec)) linesLineUptoCard

/-- THE SECOND FORM's CARD OF 'exegetelaw04.LinesTabs'. -/
def linesTabsUptoCard : Claim7 := { stood := { row := linesTabsUptoRow, standIns := [], harness := (true, "9dcfaa1f46d7686a38f6dbb068b157fc6900a996cd2954bab1b8bebc869eaed6"), looks := false }, kinds := [], alts := [], laidByText := true, laidKinds := [.data, .pinned], laidTests := true, laidLooks := .later }
def LinesTabsUptoCardSaid : Prop := Claim7.holds Tryd.pinned (.plain (OpenSpec.upto linesTabsSpec)) linesTabsUptoCard

/-- THE SECOND FORM's CARD OF 'exegetelaw04.LinesAhead'. -/
def linesAheadUptoCard : Claim7 := { stood := { row := linesAheadUptoRow, standIns := [], harness := (true, "9dcfaa1f46d7686a38f6dbb068b157fc6900a996cd2954bab1b8bebc869eaed6"), looks := false }, kinds := [], alts := [], laidByText := true, laidKinds := [.data, .pinned], laidTests := true, laidLooks := .later }
def LinesAheadUptoCardSaid : Prop := Claim7.holds Tryd.pinned (.plain (OpenSpec.upto linesAheadSpec)) linesAheadUptoCard
end Rows
end Go.Proofs.YtahabdogohdjeaaDoor
