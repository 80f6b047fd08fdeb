/-
  No cell of these rows narrows 'for every input' (looked for: loops, veiled, ifaces, maps, wideKeys, modest, calm, conditions, laid).
  DERIVED. THE GIVEN ROWS OF THIS SEAT. 11 by the template 'for every input the law returns true; each argument reads behind the call as it read before'; 0 by the template 'total and deterministic' (their statements: YtcdahnkdongmdaaTotals.lean).
  GIVEN WITH THE SEED: the statements are not yours to turn. If you find one false, say at which input.
  Laid BY PROGRAM, IN A SANDBOX (cutbox-rows.mjs): the forced cells as the released guide's own fill.sh prints them over the translation 8633c0bddc2e4c51… (all of the seat's roots in one cut). By AI agents, Wed Nov 11 2026. No macro, syntax, notation, axiom, sorry.
-/
import Derived.Test.YtcdahnkdongmdaaChecked
import GoSem.Claim
import GoSem.ClaimJoined
import GoSem.ClaimMapViews
import Derived.JoinedTies
import Derived.KernelRfl
namespace Go.Proofs.Ytcdahnkdongmdaa
/- THE CELL 'sum', in the pinned program and in every row, IS THE sha256 OF THE DUMP (.gsa) THAT YtcdahnkdongmdaaProg.lean LOADS. Nothing in Lean hashes anything: it is a label: what it is worth is what the hold of that sum in a sandbox is worth. -/
noncomputable def Try.pinned : Pinned := { name := "ytcdahnkdongmdaa", sum := "8633c0bddc2e4c51eaff089e71beee9d217fb0d1f26a3d7ddfd35cd6b348d0a1", checked := Try.checked }
namespace Rows
def none {H : Type} : Left H := { results := [], args := [] }

/-- 'exegetelaw03.SeqsEach': WHATEVER THE INPUT: true; the input reads as it did. -/
def seqsEachSpec : ChangeSpec := { name := "seqsEach", fn := fun _ => fun
  | [d1, d2] => { results := [.lit (.bool true)], args := [d1, d2] }
  | _ => none }
def seqsEachRow : OpenClaim := { program := "ytcdahnkdongmdaa", sum := "8633c0bddc2e4c51eaff089e71beee9d217fb0d1f26a3d7ddfd35cd6b348d0a1", func := "exegete/exegetelaw03.SeqsEach", spec := "seqsEach", unfollowed := true, recurses := true, apart := false }
def SeqsEachSaid : Prop := seqsEachRow.holds Try.pinned (OpenSpec.ofChange seqsEachSpec)

/-- ITS FALSE NEIGHBOUR: 'it returns false'. Refute it at one input. -/
def seqsEachWrong : ChangeSpec := { name := "seqsEach", fn := fun _ => fun
  | [d1, d2] => { results := [.lit (.bool false)], args := [d1, d2] }
  | _ => none }
def SeqsEachWrongFalsely : Prop := seqsEachRow.holds Try.pinned (OpenSpec.ofChange seqsEachWrong)

/-- 'exegetelaw03.SeqsPart': WHATEVER THE INPUT: true; the input reads as it did. -/
def seqsPartSpec : ChangeSpec := { name := "seqsPart", fn := fun _ => fun
  | [d1, d2, d3, d4] => { results := [.lit (.bool true)], args := [d1, d2, d3, d4] }
  | _ => none }
def seqsPartRow : OpenClaim := { program := "ytcdahnkdongmdaa", sum := "8633c0bddc2e4c51eaff089e71beee9d217fb0d1f26a3d7ddfd35cd6b348d0a1", func := "exegete/exegetelaw03.SeqsPart", spec := "seqsPart", unfollowed := true, recurses := true, apart := false }
def SeqsPartSaid : Prop := seqsPartRow.holds Try.pinned (OpenSpec.ofChange seqsPartSpec)

/-- ITS FALSE NEIGHBOUR: 'it returns false'. Refute it at one input. -/
def seqsPartWrong : ChangeSpec := { name := "seqsPart", fn := fun _ => fun
  | [d1, d2, d3, d4] => { results := [.lit (.bool false)], args := [d1, d2, d3, d4] }
  | _ => none }
def SeqsPartWrongFalsely : Prop := seqsPartRow.holds Try.pinned (OpenSpec.ofChange seqsPartWrong)

/-- 'exegetelaw03.SeqsJoin': WHATEVER THE INPUT: true; the input reads as it did. -/
def seqsJoinSpec : ChangeSpec := { name := "seqsJoin", fn := fun _ => fun
  | [d1, d2, d3, d4] => { results := [.lit (.bool true)], args := [d1, d2, d3, d4] }
  | _ => none }
def seqsJoinRow : OpenClaim := { program := "ytcdahnkdongmdaa", sum := "8633c0bddc2e4c51eaff089e71beee9d217fb0d1f26a3d7ddfd35cd6b348d0a1", func := "exegete/exegetelaw03.SeqsJoin", spec := "seqsJoin", unfollowed := true, recurses := true, apart := false }
def SeqsJoinSaid : Prop := seqsJoinRow.holds Try.pinned (OpenSpec.ofChange seqsJoinSpec)

/-- ITS FALSE NEIGHBOUR: 'it returns false'. Refute it at one input. -/
def seqsJoinWrong : ChangeSpec := { name := "seqsJoin", fn := fun _ => fun
  | [d1, d2, d3, d4] => { results := [.lit (.bool false)], args := [d1, d2, d3, d4] }
  | _ => none }
def SeqsJoinWrongFalsely : Prop := seqsJoinRow.holds Try.pinned (OpenSpec.ofChange seqsJoinWrong)

/-- 'exegetelaw03.SeqsBytes': WHATEVER THE INPUT: true; the input reads as it did. -/
def seqsBytesSpec : ChangeSpec := { name := "seqsBytes", fn := fun _ => fun
  | [d] => { results := [.lit (.bool true)], args := [d] }
  | _ => none }
def seqsBytesRow : OpenClaim := { program := "ytcdahnkdongmdaa", sum := "8633c0bddc2e4c51eaff089e71beee9d217fb0d1f26a3d7ddfd35cd6b348d0a1", func := "exegete/exegetelaw03.SeqsBytes", spec := "seqsBytes", unfollowed := true, recurses := true, apart := false }
def SeqsBytesSaid : Prop := seqsBytesRow.holds Try.pinned (OpenSpec.ofChange seqsBytesSpec)

/-- ITS FALSE NEIGHBOUR: 'it returns false'. Refute it at one input. -/
def seqsBytesWrong : ChangeSpec := { name := "seqsBytes", fn := fun _ => fun
  | [d] => { results := [.lit (.bool false)], args := [d] }
  | _ => none }
def SeqsBytesWrongFalsely : Prop := seqsBytesRow.holds Try.pinned (OpenSpec.ofChange seqsBytesWrong)

/-- 'exegetelaw03.SeqsAll': WHATEVER THE INPUT: true; the input reads as it did. -/
def seqsAllSpec : ChangeSpec := { name := "seqsAll", fn := fun _ => fun
  | [d1, d2] => { results := [.lit (.bool true)], args := [d1, d2] }
  | _ => none }
def seqsAllRow : OpenClaim := { program := "ytcdahnkdongmdaa", sum := "8633c0bddc2e4c51eaff089e71beee9d217fb0d1f26a3d7ddfd35cd6b348d0a1", func := "exegete/exegetelaw03.SeqsAll", spec := "seqsAll", unfollowed := true, recurses := true, apart := false }
def SeqsAllSaid : Prop := seqsAllRow.holds Try.pinned (OpenSpec.ofChange seqsAllSpec)

/-- ITS FALSE NEIGHBOUR: 'it returns false'. Refute it at one input. -/
def seqsAllWrong : ChangeSpec := { name := "seqsAll", fn := fun _ => fun
  | [d1, d2] => { results := [.lit (.bool false)], args := [d1, d2] }
  | _ => none }
def SeqsAllWrongFalsely : Prop := seqsAllRow.holds Try.pinned (OpenSpec.ofChange seqsAllWrong)

/-- 'exegetelaw03.SeqsMatch': WHATEVER THE INPUT: true; the input reads as it did. -/
def seqsMatchSpec : ChangeSpec := { name := "seqsMatch", fn := fun _ => fun
  | [d1, d2, d3] => { results := [.lit (.bool true)], args := [d1, d2, d3] }
  | _ => none }
def seqsMatchRow : OpenClaim := { program := "ytcdahnkdongmdaa", sum := "8633c0bddc2e4c51eaff089e71beee9d217fb0d1f26a3d7ddfd35cd6b348d0a1", func := "exegete/exegetelaw03.SeqsMatch", spec := "seqsMatch", unfollowed := true, recurses := true, apart := false }
def SeqsMatchSaid : Prop := seqsMatchRow.holds Try.pinned (OpenSpec.ofChange seqsMatchSpec)

/-- ITS FALSE NEIGHBOUR: 'it returns false'. Refute it at one input. -/
def seqsMatchWrong : ChangeSpec := { name := "seqsMatch", fn := fun _ => fun
  | [d1, d2, d3] => { results := [.lit (.bool false)], args := [d1, d2, d3] }
  | _ => none }
def SeqsMatchWrongFalsely : Prop := seqsMatchRow.holds Try.pinned (OpenSpec.ofChange seqsMatchWrong)

/-- 'exegetelaw14.TermTells': WHATEVER THE INPUT: true; the input reads as it did. -/
def termTellsSpec : ChangeSpec := { name := "termTells", fn := fun _ => fun
  | [d1, d2, d3, d4] => { results := [.lit (.bool true)], args := [d1, d2, d3, d4] }
  | _ => none }
def termTellsRow : OpenClaim := { program := "ytcdahnkdongmdaa", sum := "8633c0bddc2e4c51eaff089e71beee9d217fb0d1f26a3d7ddfd35cd6b348d0a1", func := "exegete/exegetelaw14.TermTells", spec := "termTells", unfollowed := true, recurses := true, apart := false }
def TermTellsSaid : Prop := termTellsRow.holds Try.pinned (OpenSpec.ofChange termTellsSpec)

/-- ITS FALSE NEIGHBOUR: 'it returns false'. Refute it at one input. -/
def termTellsWrong : ChangeSpec := { name := "termTells", fn := fun _ => fun
  | [d1, d2, d3, d4] => { results := [.lit (.bool false)], args := [d1, d2, d3, d4] }
  | _ => none }
def TermTellsWrongFalsely : Prop := termTellsRow.holds Try.pinned (OpenSpec.ofChange termTellsWrong)

/-- 'exegetelaw14.TermBounds': WHATEVER THE INPUT: true; the input reads as it did. -/
def termBoundsSpec : ChangeSpec := { name := "termBounds", fn := fun _ => fun
  | [d1, d2, d3] => { results := [.lit (.bool true)], args := [d1, d2, d3] }
  | _ => none }
def termBoundsRow : OpenClaim := { program := "ytcdahnkdongmdaa", sum := "8633c0bddc2e4c51eaff089e71beee9d217fb0d1f26a3d7ddfd35cd6b348d0a1", func := "exegete/exegetelaw14.TermBounds", spec := "termBounds", unfollowed := true, recurses := true, apart := false }
def TermBoundsSaid : Prop := termBoundsRow.holds Try.pinned (OpenSpec.ofChange termBoundsSpec)

/-- ITS FALSE NEIGHBOUR: 'it returns false'. Refute it at one input. -/
def termBoundsWrong : ChangeSpec := { name := "termBounds", fn := fun _ => fun
  | [d1, d2, d3] => { results := [.lit (.bool false)], args := [d1, d2, d3] }
  | _ => none }
def TermBoundsWrongFalsely : Prop := termBoundsRow.holds Try.pinned (OpenSpec.ofChange termBoundsWrong)

/-- 'exegetelaw14.TermTexts': WHATEVER THE INPUT: true; the input reads as it did. -/
def termTextsSpec : ChangeSpec := { name := "termTexts", fn := fun _ => fun
  | [d1, d2, d3] => { results := [.lit (.bool true)], args := [d1, d2, d3] }
  | _ => none }
def termTextsRow : OpenClaim := { program := "ytcdahnkdongmdaa", sum := "8633c0bddc2e4c51eaff089e71beee9d217fb0d1f26a3d7ddfd35cd6b348d0a1", func := "exegete/exegetelaw14.TermTexts", spec := "termTexts", unfollowed := true, recurses := true, apart := false }
def TermTextsSaid : Prop := termTextsRow.holds Try.pinned (OpenSpec.ofChange termTextsSpec)

/-- ITS FALSE NEIGHBOUR: 'it returns false'. Refute it at one input. -/
def termTextsWrong : ChangeSpec := { name := "termTexts", fn := fun _ => fun
  | [d1, d2, d3] => { results := [.lit (.bool false)], args := [d1, d2, d3] }
  | _ => none }
def TermTextsWrongFalsely : Prop := termTextsRow.holds Try.pinned (OpenSpec.ofChange termTextsWrong)

/-- 'exegetelaw14.TermSets': WHATEVER THE INPUT: true; the input reads as it did. -/
def termSetsSpec : ChangeSpec := { name := "termSets", fn := fun _ => fun
  | [d1, d2, d3, d4, d5] => { results := [.lit (.bool true)], args := [d1, d2, d3, d4, d5] }
  | _ => none }
def termSetsRow : OpenClaim := { program := "ytcdahnkdongmdaa", sum := "8633c0bddc2e4c51eaff089e71beee9d217fb0d1f26a3d7ddfd35cd6b348d0a1", func := "exegete/exegetelaw14.TermSets", spec := "termSets", unfollowed := true, recurses := true, apart := false }
def TermSetsSaid : Prop := termSetsRow.holds Try.pinned (OpenSpec.ofChange termSetsSpec)

/-- ITS FALSE NEIGHBOUR: 'it returns false'. Refute it at one input. -/
def termSetsWrong : ChangeSpec := { name := "termSets", fn := fun _ => fun
  | [d1, d2, d3, d4, d5] => { results := [.lit (.bool false)], args := [d1, d2, d3, d4, d5] }
  | _ => none }
def TermSetsWrongFalsely : Prop := termSetsRow.holds Try.pinned (OpenSpec.ofChange termSetsWrong)

/-- 'exegetelaw14.TermScalar': WHATEVER THE INPUT: true; the input reads as it did. -/
def termScalarSpec : ChangeSpec := { name := "termScalar", fn := fun _ => fun
  | [d1, d2, d3] => { results := [.lit (.bool true)], args := [d1, d2, d3] }
  | _ => none }
def termScalarRow : OpenClaim := { program := "ytcdahnkdongmdaa", sum := "8633c0bddc2e4c51eaff089e71beee9d217fb0d1f26a3d7ddfd35cd6b348d0a1", func := "exegete/exegetelaw14.TermScalar", spec := "termScalar", unfollowed := true, recurses := true, apart := false }
def TermScalarSaid : Prop := termScalarRow.holds Try.pinned (OpenSpec.ofChange termScalarSpec)

/-- ITS FALSE NEIGHBOUR: 'it returns false'. Refute it at one input. -/
def termScalarWrong : ChangeSpec := { name := "termScalar", fn := fun _ => fun
  | [d1, d2, d3] => { results := [.lit (.bool false)], args := [d1, d2, d3] }
  | _ => none }
def TermScalarWrongFalsely : Prop := termScalarRow.holds Try.pinned (OpenSpec.ofChange termScalarWrong)

/- THE SECOND FORM. 'bulk': how many values and letters a reading holds, each counted each time it is reached (what is shared counts as often as it is met; a slice's spare places count too). A statement '..UptoSaid' is the law's where the arguments, and the package variables that the reading takes, are together of bulk at most 1048576: NARROWER than '..Said'. Prove '..Said' where nothing that the law and all that it calls make is longer than what came in: it says more and counts as full. Else prove '..UptoSaid'. A law counts once. -/
mutual
def uptoBulk {H : Type} : DataW H → Nat
  | .lit (.string bytes) => bytes.length + 1
  | .lit _ => 1
  | .nil => 1
  | .ptr d => uptoBulk d + 1
  | .slice elems spare => uptoBulkAll elems + uptoBulkAll spare + 1
  | .agg parts => uptoBulkAll parts + 1
  | .iface _ d => uptoBulk d + 1
  | .map entries => uptoBulkEntries entries + 1
  | .held _ => 1
def uptoBulkAll {H : Type} : List (DataW H) → Nat
  | [] => 0
  | d :: r => uptoBulk d + uptoBulkAll r
def uptoBulkEntries {H : Type} : List (Lit × DataW H) → Nat
  | [] => 0
  | x :: r => uptoBulkEntry x + uptoBulkEntries r
def uptoBulkEntry {H : Type} : Lit × DataW H → Nat
  | (.string bytes, d) => bytes.length + uptoBulk d + 1
  | (_, d) => uptoBulk d + 1
 end
def uptoSmall : (H : Type) → List (DataW H) → Bool := fun _ ds => decide (uptoBulkAll ds ≤ 1048576)
def OpenSpec.upto (s : _root_.Go.ChangeSpec) : _root_.Go.OpenSpec := { _root_.Go.OpenSpec.ofChange s with cond := some uptoSmall }

/-- 'exegetelaw03.SeqsEach', WHERE WHAT IT READS IS OF BULK AT MOST 1048576: true; the input reads as it did. -/
def seqsEachUptoRow : OpenClaim := { program := "ytcdahnkdongmdaa", sum := "8633c0bddc2e4c51eaff089e71beee9d217fb0d1f26a3d7ddfd35cd6b348d0a1", func := "exegete/exegetelaw03.SeqsEach", spec := "seqsEach", unfollowed := true, recurses := true, apart := false, narrowed := true }
def SeqsEachUptoSaid : Prop := seqsEachUptoRow.holds Try.pinned (OpenSpec.upto seqsEachSpec)

/-- 'exegetelaw03.SeqsPart', WHERE WHAT IT READS IS OF BULK AT MOST 1048576: true; the input reads as it did. -/
def seqsPartUptoRow : OpenClaim := { program := "ytcdahnkdongmdaa", sum := "8633c0bddc2e4c51eaff089e71beee9d217fb0d1f26a3d7ddfd35cd6b348d0a1", func := "exegete/exegetelaw03.SeqsPart", spec := "seqsPart", unfollowed := true, recurses := true, apart := false, narrowed := true }
def SeqsPartUptoSaid : Prop := seqsPartUptoRow.holds Try.pinned (OpenSpec.upto seqsPartSpec)

/-- 'exegetelaw03.SeqsJoin', WHERE WHAT IT READS IS OF BULK AT MOST 1048576: true; the input reads as it did. -/
def seqsJoinUptoRow : OpenClaim := { program := "ytcdahnkdongmdaa", sum := "8633c0bddc2e4c51eaff089e71beee9d217fb0d1f26a3d7ddfd35cd6b348d0a1", func := "exegete/exegetelaw03.SeqsJoin", spec := "seqsJoin", unfollowed := true, recurses := true, apart := false, narrowed := true }
def SeqsJoinUptoSaid : Prop := seqsJoinUptoRow.holds Try.pinned (OpenSpec.upto seqsJoinSpec)

/-- 'exegetelaw03.SeqsBytes', WHERE WHAT IT READS IS OF BULK AT MOST 1048576: true; the input reads as it did. -/
def seqsBytesUptoRow : OpenClaim := { program := "ytcdahnkdongmdaa", sum := "8633c0bddc2e4c51eaff089e71beee9d217fb0d1f26a3d7ddfd35cd6b348d0a1", func := "exegete/exegetelaw03.SeqsBytes", spec := "seqsBytes", unfollowed := true, recurses := true, apart := false, narrowed := true }
def SeqsBytesUptoSaid : Prop := seqsBytesUptoRow.holds Try.pinned (OpenSpec.upto seqsBytesSpec)

/-- 'exegetelaw03.SeqsAll', WHERE WHAT IT READS IS OF BULK AT MOST 1048576: true; the input reads as it did. -/
def seqsAllUptoRow : OpenClaim := { program := "ytcdahnkdongmdaa", sum := "8633c0bddc2e4c51eaff089e71beee9d217fb0d1f26a3d7ddfd35cd6b348d0a1", func := "exegete/exegetelaw03.SeqsAll", spec := "seqsAll", unfollowed := true, recurses := true, apart := false, narrowed := true }
def SeqsAllUptoSaid : Prop := seqsAllUptoRow.holds Try.pinned (OpenSpec.upto seqsAllSpec)

/-- 'exegetelaw03.SeqsMatch', WHERE WHAT IT READS IS OF BULK AT MOST 1048576: true; the input reads as it did. -/
def seqsMatchUptoRow : OpenClaim := { program := "ytcdahnkdongmdaa", sum := "8633c0bddc2e4c51eaff089e71beee9d217fb0d1f26a3d7ddfd35cd6b348d0a1", func := "exegete/exegetelaw03.SeqsMatch", spec := "seqsMatch", unfollowed := true, recurses := true, apart := false, narrowed := true }
def SeqsMatchUptoSaid : Prop := seqsMatchUptoRow.holds Try.pinned (OpenSpec.upto seqsMatchSpec)

/-- 'exegetelaw14.TermTells', WHERE WHAT IT READS IS OF BULK AT MOST 1048576: true; the input reads as it did. -/
def termTellsUptoRow : OpenClaim := { program := "ytcdahnkdongmdaa", sum := "8633c0bddc2e4c51eaff089e71beee9d217fb0d1f26a3d7ddfd35cd6b348d0a1", func := "exegete/exegetelaw14.TermTells", spec := "termTells", unfollowed := true, recurses := true, apart := false, narrowed := true }
def TermTellsUptoSaid : Prop := termTellsUptoRow.holds Try.pinned (OpenSpec.upto termTellsSpec)

/-- 'exegetelaw14.TermBounds', WHERE WHAT IT READS IS OF BULK AT MOST 1048576: true; the input reads as it did. -/
def termBoundsUptoRow : OpenClaim := { program := "ytcdahnkdongmdaa", sum := "8633c0bddc2e4c51eaff089e71beee9d217fb0d1f26a3d7ddfd35cd6b348d0a1", func := "exegete/exegetelaw14.TermBounds", spec := "termBounds", unfollowed := true, recurses := true, apart := false, narrowed := true }
def TermBoundsUptoSaid : Prop := termBoundsUptoRow.holds Try.pinned (OpenSpec.upto termBoundsSpec)

/-- 'exegetelaw14.TermTexts', WHERE WHAT IT READS IS OF BULK AT MOST 1048576: true; the input reads as it did. -/
def termTextsUptoRow : OpenClaim := { program := "ytcdahnkdongmdaa", sum := "8633c0bddc2e4c51eaff089e71beee9d217fb0d1f26a3d7ddfd35cd6b348d0a1", func := "exegete/exegetelaw14.TermTexts", spec := "termTexts", unfollowed := true, recurses := true, apart := false, narrowed := true }
def TermTextsUptoSaid : Prop := termTextsUptoRow.holds Try.pinned (OpenSpec.upto termTextsSpec)

/-- 'exegetelaw14.TermSets', WHERE WHAT IT READS IS OF BULK AT MOST 1048576: true; the input reads as it did. -/
def termSetsUptoRow : OpenClaim := { program := "ytcdahnkdongmdaa", sum := "8633c0bddc2e4c51eaff089e71beee9d217fb0d1f26a3d7ddfd35cd6b348d0a1", func := "exegete/exegetelaw14.TermSets", spec := "termSets", unfollowed := true, recurses := true, apart := false, narrowed := true }
def TermSetsUptoSaid : Prop := termSetsUptoRow.holds Try.pinned (OpenSpec.upto termSetsSpec)

/-- 'exegetelaw14.TermScalar', WHERE WHAT IT READS IS OF BULK AT MOST 1048576: true; the input reads as it did. -/
def termScalarUptoRow : OpenClaim := { program := "ytcdahnkdongmdaa", sum := "8633c0bddc2e4c51eaff089e71beee9d217fb0d1f26a3d7ddfd35cd6b348d0a1", func := "exegete/exegetelaw14.TermScalar", spec := "termScalar", unfollowed := true, recurses := true, apart := false, narrowed := true }
def TermScalarUptoSaid : Prop := termScalarUptoRow.holds Try.pinned (OpenSpec.upto termScalarSpec)

end Rows
end Go.Proofs.Ytcdahnkdongmdaa
