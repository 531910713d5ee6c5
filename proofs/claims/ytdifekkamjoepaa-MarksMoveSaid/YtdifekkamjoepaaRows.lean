/-
  No cell of these rows narrows 'for every input' (looked for: loops, veiled, ifaces, maps, wideKeys, modest, calm, conditions, laid).
  DERIVED. THE GIVEN ROWS OF THIS SEAT. 14 by the template 'for every input the law returns true; each argument reads behind the call as it read before'; 0 by the template 'total and deterministic' (their statements: YtdifekkamjoepaaTotals.lean).
  GIVEN WITH THE SEED: the statements are not yours to turn. If you find one false, say at which input.
  Laid BY PROGRAM, IN A SANDBOX (cutbox-rows.mjs): the forced cells as the released guide's own fill.sh prints them over the translation 0dd9fda120e42d75… (all of the seat's roots in one cut). By AI agents, Wed Nov 11 2026. No macro, syntax, notation, axiom, sorry.
-/
import Derived.Test.YtdifekkamjoepaaChecked
import GoSem.Claim
import GoSem.ClaimJoined
import GoSem.ClaimMapViews
import Derived.JoinedTies
import Derived.KernelRfl
namespace Go.Proofs.Ytdifekkamjoepaa
/- THE CELL 'sum', in the pinned program and in every row, IS THE sha256 OF THE DUMP (.gsa) THAT YtdifekkamjoepaaProg.lean LOADS. Nothing in Lean hashes anything: it is a label: what it is worth is what the hold of that sum in a sandbox is worth. -/
noncomputable def Try.pinned : Pinned := { name := "ytdifekkamjoepaa", sum := "0dd9fda120e42d7577749cc2de04249d628c229814f7787a842b64d563200532", checked := Try.checked }
namespace Rows
def none {H : Type} : Left H := { results := [], args := [] }

/-- 'pleacherlaw25.MarksOrder': WHATEVER THE INPUT: true; the input reads as it did. -/
def marksOrderSpec : ChangeSpec := { name := "marksOrder", fn := fun _ => fun
  | [d1, d2, d3, d4] => { results := [.lit (.bool true)], args := [d1, d2, d3, d4] }
  | _ => none }
def marksOrderRow : OpenClaim := { program := "ytdifekkamjoepaa", sum := "0dd9fda120e42d7577749cc2de04249d628c229814f7787a842b64d563200532", func := "pleacher/pleacherlaw25.MarksOrder", spec := "marksOrder", inPlace := ["slices.overlaps[string]", "slices.overlaps[int]"], apart := false }
def MarksOrderSaid : Prop := marksOrderRow.holds Try.pinned (OpenSpec.ofChange marksOrderSpec)

/-- ITS FALSE NEIGHBOUR: 'it returns false'. Refute it at one input. -/
def marksOrderWrong : ChangeSpec := { name := "marksOrder", fn := fun _ => fun
  | [d1, d2, d3, d4] => { results := [.lit (.bool false)], args := [d1, d2, d3, d4] }
  | _ => none }
def MarksOrderWrongFalsely : Prop := marksOrderRow.holds Try.pinned (OpenSpec.ofChange marksOrderWrong)

/-- 'pleacherlaw25.MarksMove': WHATEVER THE INPUT: true; the input reads as it did. -/
def marksMoveSpec : ChangeSpec := { name := "marksMove", fn := fun _ => fun
  | [d1, d2, d3] => { results := [.lit (.bool true)], args := [d1, d2, d3] }
  | _ => none }
def marksMoveRow : OpenClaim := { program := "ytdifekkamjoepaa", sum := "0dd9fda120e42d7577749cc2de04249d628c229814f7787a842b64d563200532", func := "pleacher/pleacherlaw25.MarksMove", spec := "marksMove", inPlace := ["slices.overlaps[string]", "slices.overlaps[int]"], unfollowed := true, recurses := true, apart := false }
def MarksMoveSaid : Prop := marksMoveRow.holds Try.pinned (OpenSpec.ofChange marksMoveSpec)

/-- ITS FALSE NEIGHBOUR: 'it returns false'. Refute it at one input. -/
def marksMoveWrong : ChangeSpec := { name := "marksMove", fn := fun _ => fun
  | [d1, d2, d3] => { results := [.lit (.bool false)], args := [d1, d2, d3] }
  | _ => none }
def MarksMoveWrongFalsely : Prop := marksMoveRow.holds Try.pinned (OpenSpec.ofChange marksMoveWrong)

/-- 'pleacherlaw25.MarksNames': WHATEVER THE INPUT: true; the input reads as it did. -/
def marksNamesSpec : ChangeSpec := { name := "marksNames", fn := fun _ => fun
  | [d1, d2, d3, d4] => { results := [.lit (.bool true)], args := [d1, d2, d3, d4] }
  | _ => none }
def marksNamesRow : OpenClaim := { program := "ytdifekkamjoepaa", sum := "0dd9fda120e42d7577749cc2de04249d628c229814f7787a842b64d563200532", func := "pleacher/pleacherlaw25.MarksNames", spec := "marksNames", inPlace := ["slices.overlaps[string]", "slices.overlaps[int]"], apart := false }
def MarksNamesSaid : Prop := marksNamesRow.holds Try.pinned (OpenSpec.ofChange marksNamesSpec)

/-- ITS FALSE NEIGHBOUR: 'it returns false'. Refute it at one input. -/
def marksNamesWrong : ChangeSpec := { name := "marksNames", fn := fun _ => fun
  | [d1, d2, d3, d4] => { results := [.lit (.bool false)], args := [d1, d2, d3, d4] }
  | _ => none }
def MarksNamesWrongFalsely : Prop := marksNamesRow.holds Try.pinned (OpenSpec.ofChange marksNamesWrong)

/-- 'pleacherlaw02.RopeGrows': WHATEVER THE INPUT: true; the input reads as it did. -/
def ropeGrowsSpec : ChangeSpec := { name := "ropeGrows", fn := fun _ => fun
  | [d1, d2] => { results := [.lit (.bool true)], args := [d1, d2] }
  | _ => none }
def ropeGrowsRow : OpenClaim := { program := "ytdifekkamjoepaa", sum := "0dd9fda120e42d7577749cc2de04249d628c229814f7787a842b64d563200532", func := "pleacher/pleacherlaw02.RopeGrows", spec := "ropeGrows", inPlace := ["internal/bytealg.CountString", "internal/bytealg.IndexByteString", "internal/bytealg.IndexString", "internal/abi.NoEscape"], recurses := true, named := ["internal/bytealg.MaxLen"], apart := false }
def RopeGrowsSaid : Prop := ropeGrowsRow.holds Try.pinned (OpenSpec.ofChange ropeGrowsSpec)

/-- ITS FALSE NEIGHBOUR: 'it returns false'. Refute it at one input. -/
def ropeGrowsWrong : ChangeSpec := { name := "ropeGrows", fn := fun _ => fun
  | [d1, d2] => { results := [.lit (.bool false)], args := [d1, d2] }
  | _ => none }
def RopeGrowsWrongFalsely : Prop := ropeGrowsRow.holds Try.pinned (OpenSpec.ofChange ropeGrowsWrong)

/-- 'pleacherlaw02.RopePlays': WHATEVER THE INPUT: true; the input reads as it did. -/
def ropePlaysSpec : ChangeSpec := { name := "ropePlays", fn := fun _ => fun
  | [d1, d2] => { results := [.lit (.bool true)], args := [d1, d2] }
  | _ => none }
def ropePlaysRow : OpenClaim := { program := "ytdifekkamjoepaa", sum := "0dd9fda120e42d7577749cc2de04249d628c229814f7787a842b64d563200532", func := "pleacher/pleacherlaw02.RopePlays", spec := "ropePlays", inPlace := ["internal/bytealg.CountString", "internal/bytealg.IndexByteString", "internal/bytealg.IndexString", "internal/abi.NoEscape"], recurses := true, named := ["internal/bytealg.MaxLen"], apart := false }
def RopePlaysSaid : Prop := ropePlaysRow.holds Try.pinned (OpenSpec.ofChange ropePlaysSpec)

/-- ITS FALSE NEIGHBOUR: 'it returns false'. Refute it at one input. -/
def ropePlaysWrong : ChangeSpec := { name := "ropePlays", fn := fun _ => fun
  | [d1, d2] => { results := [.lit (.bool false)], args := [d1, d2] }
  | _ => none }
def RopePlaysWrongFalsely : Prop := ropePlaysRow.holds Try.pinned (OpenSpec.ofChange ropePlaysWrong)

/-- 'pleacherlaw02.RopeSlices': WHATEVER THE INPUT: true; the input reads as it did. -/
def ropeSlicesSpec : ChangeSpec := { name := "ropeSlices", fn := fun _ => fun
  | [d1, d2, d3, d4] => { results := [.lit (.bool true)], args := [d1, d2, d3, d4] }
  | _ => none }
def ropeSlicesRow : OpenClaim := { program := "ytdifekkamjoepaa", sum := "0dd9fda120e42d7577749cc2de04249d628c229814f7787a842b64d563200532", func := "pleacher/pleacherlaw02.RopeSlices", spec := "ropeSlices", inPlace := ["internal/bytealg.CountString", "internal/bytealg.IndexByteString", "internal/bytealg.IndexString", "internal/abi.NoEscape"], recurses := true, named := ["internal/bytealg.MaxLen"], apart := false }
def RopeSlicesSaid : Prop := ropeSlicesRow.holds Try.pinned (OpenSpec.ofChange ropeSlicesSpec)

/-- ITS FALSE NEIGHBOUR: 'it returns false'. Refute it at one input. -/
def ropeSlicesWrong : ChangeSpec := { name := "ropeSlices", fn := fun _ => fun
  | [d1, d2, d3, d4] => { results := [.lit (.bool false)], args := [d1, d2, d3, d4] }
  | _ => none }
def RopeSlicesWrongFalsely : Prop := ropeSlicesRow.holds Try.pinned (OpenSpec.ofChange ropeSlicesWrong)

/-- 'pleacherlaw03.PlaceBack': WHATEVER THE INPUT: true; the input reads as it did. -/
def placeBackSpec : ChangeSpec := { name := "placeBack", fn := fun _ => fun
  | [d1, d2] => { results := [.lit (.bool true)], args := [d1, d2] }
  | _ => none }
def placeBackRow : OpenClaim := { program := "ytdifekkamjoepaa", sum := "0dd9fda120e42d7577749cc2de04249d628c229814f7787a842b64d563200532", func := "pleacher/pleacherlaw03.PlaceBack", spec := "placeBack", inPlace := ["internal/bytealg.CountString", "internal/bytealg.IndexByteString", "internal/bytealg.IndexString", "internal/abi.NoEscape"], recurses := true, named := ["internal/bytealg.MaxLen"], apart := false }
def PlaceBackSaid : Prop := placeBackRow.holds Try.pinned (OpenSpec.ofChange placeBackSpec)

/-- ITS FALSE NEIGHBOUR: 'it returns false'. Refute it at one input. -/
def placeBackWrong : ChangeSpec := { name := "placeBack", fn := fun _ => fun
  | [d1, d2] => { results := [.lit (.bool false)], args := [d1, d2] }
  | _ => none }
def PlaceBackWrongFalsely : Prop := placeBackRow.holds Try.pinned (OpenSpec.ofChange placeBackWrong)

/-- 'pleacherlaw03.PlaceUp': WHATEVER THE INPUT: true; the input reads as it did. -/
def placeUpSpec : ChangeSpec := { name := "placeUp", fn := fun _ => fun
  | [d1, d2, d3] => { results := [.lit (.bool true)], args := [d1, d2, d3] }
  | _ => none }
def placeUpRow : OpenClaim := { program := "ytdifekkamjoepaa", sum := "0dd9fda120e42d7577749cc2de04249d628c229814f7787a842b64d563200532", func := "pleacher/pleacherlaw03.PlaceUp", spec := "placeUp", inPlace := ["internal/bytealg.CountString", "internal/bytealg.IndexByteString", "internal/bytealg.IndexString", "internal/abi.NoEscape"], recurses := true, named := ["internal/bytealg.MaxLen"], apart := false }
def PlaceUpSaid : Prop := placeUpRow.holds Try.pinned (OpenSpec.ofChange placeUpSpec)

/-- ITS FALSE NEIGHBOUR: 'it returns false'. Refute it at one input. -/
def placeUpWrong : ChangeSpec := { name := "placeUp", fn := fun _ => fun
  | [d1, d2, d3] => { results := [.lit (.bool false)], args := [d1, d2, d3] }
  | _ => none }
def PlaceUpWrongFalsely : Prop := placeUpRow.holds Try.pinned (OpenSpec.ofChange placeUpWrong)

/-- 'pleacherlaw03.PlaceLines': WHATEVER THE INPUT: true; the input reads as it did. -/
def placeLinesSpec : ChangeSpec := { name := "placeLines", fn := fun _ => fun
  | [d1, d2] => { results := [.lit (.bool true)], args := [d1, d2] }
  | _ => none }
def placeLinesRow : OpenClaim := { program := "ytdifekkamjoepaa", sum := "0dd9fda120e42d7577749cc2de04249d628c229814f7787a842b64d563200532", func := "pleacher/pleacherlaw03.PlaceLines", spec := "placeLines", inPlace := ["internal/bytealg.CountString", "internal/bytealg.IndexByteString", "internal/bytealg.IndexString", "internal/abi.NoEscape"], recurses := true, named := ["internal/bytealg.MaxLen"], apart := false }
def PlaceLinesSaid : Prop := placeLinesRow.holds Try.pinned (OpenSpec.ofChange placeLinesSpec)

/-- ITS FALSE NEIGHBOUR: 'it returns false'. Refute it at one input. -/
def placeLinesWrong : ChangeSpec := { name := "placeLines", fn := fun _ => fun
  | [d1, d2] => { results := [.lit (.bool false)], args := [d1, d2] }
  | _ => none }
def PlaceLinesWrongFalsely : Prop := placeLinesRow.holds Try.pinned (OpenSpec.ofChange placeLinesWrong)

/-- 'pleacherlaw03.PlaceMarks': WHATEVER THE INPUT: true; the input reads as it did. -/
def placeMarksSpec : ChangeSpec := { name := "placeMarks", fn := fun _ => fun
  | [d1, d2] => { results := [.lit (.bool true)], args := [d1, d2] }
  | _ => none }
def placeMarksRow : OpenClaim := { program := "ytdifekkamjoepaa", sum := "0dd9fda120e42d7577749cc2de04249d628c229814f7787a842b64d563200532", func := "pleacher/pleacherlaw03.PlaceMarks", spec := "placeMarks", inPlace := ["internal/bytealg.CountString", "internal/bytealg.IndexByteString", "internal/bytealg.IndexString", "internal/abi.NoEscape"], recurses := true, named := ["internal/bytealg.MaxLen"], apart := false }
def PlaceMarksSaid : Prop := placeMarksRow.holds Try.pinned (OpenSpec.ofChange placeMarksSpec)

/-- ITS FALSE NEIGHBOUR: 'it returns false'. Refute it at one input. -/
def placeMarksWrong : ChangeSpec := { name := "placeMarks", fn := fun _ => fun
  | [d1, d2] => { results := [.lit (.bool false)], args := [d1, d2] }
  | _ => none }
def PlaceMarksWrongFalsely : Prop := placeMarksRow.holds Try.pinned (OpenSpec.ofChange placeMarksWrong)

/-- 'pleacherlaw04.EditBack': WHATEVER THE INPUT: true; the input reads as it did. -/
def editBackSpec : ChangeSpec := { name := "editBack", fn := fun _ => fun
  | [d1, d2] => { results := [.lit (.bool true)], args := [d1, d2] }
  | _ => none }
def editBackRow : OpenClaim := { program := "ytdifekkamjoepaa", sum := "0dd9fda120e42d7577749cc2de04249d628c229814f7787a842b64d563200532", func := "pleacher/pleacherlaw04.EditBack", spec := "editBack", inPlace := ["internal/bytealg.CountString", "internal/bytealg.IndexByteString", "internal/bytealg.IndexString", "internal/abi.NoEscape"], recurses := true, named := ["internal/bytealg.MaxLen"], apart := false }
def EditBackSaid : Prop := editBackRow.holds Try.pinned (OpenSpec.ofChange editBackSpec)

/-- ITS FALSE NEIGHBOUR: 'it returns false'. Refute it at one input. -/
def editBackWrong : ChangeSpec := { name := "editBack", fn := fun _ => fun
  | [d1, d2] => { results := [.lit (.bool false)], args := [d1, d2] }
  | _ => none }
def EditBackWrongFalsely : Prop := editBackRow.holds Try.pinned (OpenSpec.ofChange editBackWrong)

/-- 'pleacherlaw04.EditMoves': WHATEVER THE INPUT: true; the input reads as it did. -/
def editMovesSpec : ChangeSpec := { name := "editMoves", fn := fun _ => fun
  | [d1, d2, d3, d4, d5] => { results := [.lit (.bool true)], args := [d1, d2, d3, d4, d5] }
  | _ => none }
def editMovesRow : OpenClaim := { program := "ytdifekkamjoepaa", sum := "0dd9fda120e42d7577749cc2de04249d628c229814f7787a842b64d563200532", func := "pleacher/pleacherlaw04.EditMoves", spec := "editMoves", inPlace := ["internal/bytealg.CountString", "internal/bytealg.IndexByteString", "internal/bytealg.IndexString", "internal/abi.NoEscape"], recurses := true, named := ["internal/bytealg.MaxLen"], apart := false }
def EditMovesSaid : Prop := editMovesRow.holds Try.pinned (OpenSpec.ofChange editMovesSpec)

/-- ITS FALSE NEIGHBOUR: 'it returns false'. Refute it at one input. -/
def editMovesWrong : ChangeSpec := { name := "editMoves", fn := fun _ => fun
  | [d1, d2, d3, d4, d5] => { results := [.lit (.bool false)], args := [d1, d2, d3, d4, d5] }
  | _ => none }
def EditMovesWrongFalsely : Prop := editMovesRow.holds Try.pinned (OpenSpec.ofChange editMovesWrong)

/-- 'pleacherlaw04.EditDiffs': WHATEVER THE INPUT: true; the input reads as it did. -/
def editDiffsSpec : ChangeSpec := { name := "editDiffs", fn := fun _ => fun
  | [d1, d2] => { results := [.lit (.bool true)], args := [d1, d2] }
  | _ => none }
def editDiffsRow : OpenClaim := { program := "ytdifekkamjoepaa", sum := "0dd9fda120e42d7577749cc2de04249d628c229814f7787a842b64d563200532", func := "pleacher/pleacherlaw04.EditDiffs", spec := "editDiffs", inPlace := ["internal/bytealg.CountString", "internal/bytealg.IndexByteString", "internal/bytealg.IndexString", "internal/abi.NoEscape"], recurses := true, named := ["internal/bytealg.MaxLen"], apart := false }
def EditDiffsSaid : Prop := editDiffsRow.holds Try.pinned (OpenSpec.ofChange editDiffsSpec)

/-- ITS FALSE NEIGHBOUR: 'it returns false'. Refute it at one input. -/
def editDiffsWrong : ChangeSpec := { name := "editDiffs", fn := fun _ => fun
  | [d1, d2] => { results := [.lit (.bool false)], args := [d1, d2] }
  | _ => none }
def EditDiffsWrongFalsely : Prop := editDiffsRow.holds Try.pinned (OpenSpec.ofChange editDiffsWrong)

/-- 'pleacherlaw04.EditApplies': WHATEVER THE INPUT: true; the input reads as it did. -/
def editAppliesSpec : ChangeSpec := { name := "editApplies", fn := fun _ => fun
  | [d1, d2] => { results := [.lit (.bool true)], args := [d1, d2] }
  | _ => none }
def editAppliesRow : OpenClaim := { program := "ytdifekkamjoepaa", sum := "0dd9fda120e42d7577749cc2de04249d628c229814f7787a842b64d563200532", func := "pleacher/pleacherlaw04.EditApplies", spec := "editApplies", inPlace := ["internal/bytealg.CountString", "internal/bytealg.IndexByteString", "internal/bytealg.IndexString", "internal/abi.NoEscape"], recurses := true, named := ["internal/bytealg.MaxLen"], apart := false }
def EditAppliesSaid : Prop := editAppliesRow.holds Try.pinned (OpenSpec.ofChange editAppliesSpec)

/-- ITS FALSE NEIGHBOUR: 'it returns false'. Refute it at one input. -/
def editAppliesWrong : ChangeSpec := { name := "editApplies", fn := fun _ => fun
  | [d1, d2] => { results := [.lit (.bool false)], args := [d1, d2] }
  | _ => none }
def EditAppliesWrongFalsely : Prop := editAppliesRow.holds Try.pinned (OpenSpec.ofChange editAppliesWrong)

/- THE SECOND FORM. 'bulk': how many values and letters a reading holds, each counted each time it is reached (what is shared counts as often as it is met; a slice's spare places count too). A statement '..UptoSaid' is the law's where the arguments, and the package variables that the reading takes, are together of bulk at most 1048576: NARROWER than '..Said'. Prove '..Said' where nothing that the law and all that it calls make is longer than what came in: it says more and counts as full. Else prove '..UptoSaid'. A law counts once. -/
mutual
def uptoBulk {H : Type} : DataW H → Nat
  | .lit (.string bytes) => bytes.length + 1
  | .lit _ => 1
  | .nil => 1
  | .ptr d => uptoBulk d + 1
  | .slice elems spare => uptoBulkAll elems + uptoBulkAll spare + 1
  | .agg parts => uptoBulkAll parts + 1
  | .iface _ d => uptoBulk d + 1
  | .map entries => uptoBulkEntries entries + 1
  | .held _ => 1
def uptoBulkAll {H : Type} : List (DataW H) → Nat
  | [] => 0
  | d :: r => uptoBulk d + uptoBulkAll r
def uptoBulkEntries {H : Type} : List (Lit × DataW H) → Nat
  | [] => 0
  | x :: r => uptoBulkEntry x + uptoBulkEntries r
def uptoBulkEntry {H : Type} : Lit × DataW H → Nat
  | (.string bytes, d) => bytes.length + uptoBulk d + 1
  | (_, d) => uptoBulk d + 1
 end
def uptoSmall : (H : Type) → List (DataW H) → Bool := fun _ ds => decide (uptoBulkAll ds ≤ 1048576)
def OpenSpec.upto (s : _root_.Go.ChangeSpec) : _root_.Go.OpenSpec := { _root_.Go.OpenSpec.ofChange s with cond := some uptoSmall }

/-- 'pleacherlaw25.MarksOrder', WHERE WHAT IT READS IS OF BULK AT MOST 1048576: true; the input reads as it did. -/
def marksOrderUptoRow : OpenClaim := { program := "ytdifekkamjoepaa", sum := "0dd9fda120e42d7577749cc2de04249d628c229814f7787a842b64d563200532", func := "pleacher/pleacherlaw25.MarksOrder", spec := "marksOrder", inPlace := ["slices.overlaps[string]", "slices.overlaps[int]"], apart := false, narrowed := true }
def MarksOrderUptoSaid : Prop := marksOrderUptoRow.holds Try.pinned (OpenSpec.upto marksOrderSpec)

/-- 'pleacherlaw25.MarksMove', WHERE WHAT IT READS IS OF BULK AT MOST 1048576: true; the input reads as it did. -/
def marksMoveUptoRow : OpenClaim := { program := "ytdifekkamjoepaa", sum := "0dd9fda120e42d7577749cc2de04249d628c229814f7787a842b64d563200532", func := "pleacher/pleacherlaw25.MarksMove", spec := "marksMove", inPlace := ["slices.overlaps[string]", "slices.overlaps[int]"], unfollowed := true, recurses := true, apart := false, narrowed := true }
def MarksMoveUptoSaid : Prop := marksMoveUptoRow.holds Try.pinned (OpenSpec.upto marksMoveSpec)

/-- 'pleacherlaw25.MarksNames', WHERE WHAT IT READS IS OF BULK AT MOST 1048576: true; the input reads as it did. -/
def marksNamesUptoRow : OpenClaim := { program := "ytdifekkamjoepaa", sum := "0dd9fda120e42d7577749cc2de04249d628c229814f7787a842b64d563200532", func := "pleacher/pleacherlaw25.MarksNames", spec := "marksNames", inPlace := ["slices.overlaps[string]", "slices.overlaps[int]"], apart := false, narrowed := true }
def MarksNamesUptoSaid : Prop := marksNamesUptoRow.holds Try.pinned (OpenSpec.upto marksNamesSpec)

/-- 'pleacherlaw02.RopeGrows', WHERE WHAT IT READS IS OF BULK AT MOST 1048576: true; the input reads as it did. -/
def ropeGrowsUptoRow : OpenClaim := { program := "ytdifekkamjoepaa", sum := "0dd9fda120e42d7577749cc2de04249d628c229814f7787a842b64d563200532", func := "pleacher/pleacherlaw02.RopeGrows", spec := "ropeGrows", inPlace := ["internal/bytealg.CountString", "internal/bytealg.IndexByteString", "internal/bytealg.IndexString", "internal/abi.NoEscape"], recurses := true, named := ["internal/bytealg.MaxLen"], apart := false, narrowed := true }
def RopeGrowsUptoSaid : Prop := ropeGrowsUptoRow.holds Try.pinned (OpenSpec.upto ropeGrowsSpec)

/-- 'pleacherlaw02.RopePlays', WHERE WHAT IT READS IS OF BULK AT MOST 1048576: true; the input reads as it did. -/
def ropePlaysUptoRow : OpenClaim := { program := "ytdifekkamjoepaa", sum := "0dd9fda120e42d7577749cc2de04249d628c229814f7787a842b64d563200532", func := "pleacher/pleacherlaw02.RopePlays", spec := "ropePlays", inPlace := ["internal/bytealg.CountString", "internal/bytealg.IndexByteString", "internal/bytealg.IndexString", "internal/abi.NoEscape"], recurses := true, named := ["internal/bytealg.MaxLen"], apart := false, narrowed := true }
def RopePlaysUptoSaid : Prop := ropePlaysUptoRow.holds Try.pinned (OpenSpec.upto ropePlaysSpec)

/-- 'pleacherlaw02.RopeSlices', WHERE WHAT IT READS IS OF BULK AT MOST 1048576: true; the input reads as it did. -/
def ropeSlicesUptoRow : OpenClaim := { program := "ytdifekkamjoepaa", sum := "0dd9fda120e42d7577749cc2de04249d628c229814f7787a842b64d563200532", func := "pleacher/pleacherlaw02.RopeSlices", spec := "ropeSlices", inPlace := ["internal/bytealg.CountString", "internal/bytealg.IndexByteString", "internal/bytealg.IndexString", "internal/abi.NoEscape"], recurses := true, named := ["internal/bytealg.MaxLen"], apart := false, narrowed := true }
def RopeSlicesUptoSaid : Prop := ropeSlicesUptoRow.holds Try.pinned (OpenSpec.upto ropeSlicesSpec)

/-- 'pleacherlaw03.PlaceBack', WHERE WHAT IT READS IS OF BULK AT MOST 1048576: true; the input reads as it did. -/
def placeBackUptoRow : OpenClaim := { program := "ytdifekkamjoepaa", sum := "0dd9fda120e42d7577749cc2de04249d628c229814f7787a842b64d563200532", func := "pleacher/pleacherlaw03.PlaceBack", spec := "placeBack", inPlace := ["internal/bytealg.CountString", "internal/bytealg.IndexByteString", "internal/bytealg.IndexString", "internal/abi.NoEscape"], recurses := true, named := ["internal/bytealg.MaxLen"], apart := false, narrowed := true }
def PlaceBackUptoSaid : Prop := placeBackUptoRow.holds Try.pinned (OpenSpec.upto placeBackSpec)

/-- 'pleacherlaw03.PlaceUp', WHERE WHAT IT READS IS OF BULK AT MOST 1048576: true; the input reads as it did. -/
def placeUpUptoRow : OpenClaim := { program := "ytdifekkamjoepaa", sum := "0dd9fda120e42d7577749cc2de04249d628c229814f7787a842b64d563200532", func := "pleacher/pleacherlaw03.PlaceUp", spec := "placeUp", inPlace := ["internal/bytealg.CountString", "internal/bytealg.IndexByteString", "internal/bytealg.IndexString", "internal/abi.NoEscape"], recurses := true, named := ["internal/bytealg.MaxLen"], apart := false, narrowed := true }
def PlaceUpUptoSaid : Prop := placeUpUptoRow.holds Try.pinned (OpenSpec.upto placeUpSpec)

/-- 'pleacherlaw03.PlaceLines', WHERE WHAT IT READS IS OF BULK AT MOST 1048576: true; the input reads as it did. -/
def placeLinesUptoRow : OpenClaim := { program := "ytdifekkamjoepaa", sum := "0dd9fda120e42d7577749cc2de04249d628c229814f7787a842b64d563200532", func := "pleacher/pleacherlaw03.PlaceLines", spec := "placeLines", inPlace := ["internal/bytealg.CountString", "internal/bytealg.IndexByteString", "internal/bytealg.IndexString", "internal/abi.NoEscape"], recurses := true, named := ["internal/bytealg.MaxLen"], apart := false, narrowed := true }
def PlaceLinesUptoSaid : Prop := placeLinesUptoRow.holds Try.pinned (OpenSpec.upto placeLinesSpec)

/-- 'pleacherlaw03.PlaceMarks', WHERE WHAT IT READS IS OF BULK AT MOST 1048576: true; the input reads as it did. -/
def placeMarksUptoRow : OpenClaim := { program := "ytdifekkamjoepaa", sum := "0dd9fda120e42d7577749cc2de04249d628c229814f7787a842b64d563200532", func := "pleacher/pleacherlaw03.PlaceMarks", spec := "placeMarks", inPlace := ["internal/bytealg.CountString", "internal/bytealg.IndexByteString", "internal/bytealg.IndexString", "internal/abi.NoEscape"], recurses := true, named := ["internal/bytealg.MaxLen"], apart := false, narrowed := true }
def PlaceMarksUptoSaid : Prop := placeMarksUptoRow.holds Try.pinned (OpenSpec.upto placeMarksSpec)

/-- 'pleacherlaw04.EditBack', WHERE WHAT IT READS IS OF BULK AT MOST 1048576: true; the input reads as it did. -/
def editBackUptoRow : OpenClaim := { program := "ytdifekkamjoepaa", sum := "0dd9fda120e42d7577749cc2de04249d628c229814f7787a842b64d563200532", func := "pleacher/pleacherlaw04.EditBack", spec := "editBack", inPlace := ["internal/bytealg.CountString", "internal/bytealg.IndexByteString", "internal/bytealg.IndexString", "internal/abi.NoEscape"], recurses := true, named := ["internal/bytealg.MaxLen"], apart := false, narrowed := true }
def EditBackUptoSaid : Prop := editBackUptoRow.holds Try.pinned (OpenSpec.upto editBackSpec)

/-- 'pleacherlaw04.EditMoves', WHERE WHAT IT READS IS OF BULK AT MOST 1048576: true; the input reads as it did. -/
def editMovesUptoRow : OpenClaim := { program := "ytdifekkamjoepaa", sum := "0dd9fda120e42d7577749cc2de04249d628c229814f7787a842b64d563200532", func := "pleacher/pleacherlaw04.EditMoves", spec := "editMoves", inPlace := ["internal/bytealg.CountString", "internal/bytealg.IndexByteString", "internal/bytealg.IndexString", "internal/abi.NoEscape"], recurses := true, named := ["internal/bytealg.MaxLen"], apart := false, narrowed := true }
def EditMovesUptoSaid : Prop := editMovesUptoRow.holds Try.pinned (OpenSpec.upto editMovesSpec)

/-- 'pleacherlaw04.EditDiffs', WHERE WHAT IT READS IS OF BULK AT MOST 1048576: true; the input reads as it did. -/
def editDiffsUptoRow : OpenClaim := { program := "ytdifekkamjoepaa", sum := "0dd9fda120e42d7577749cc2de04249d628c229814f7787a842b64d563200532", func := "pleacher/pleacherlaw04.EditDiffs", spec := "editDiffs", inPlace := ["internal/bytealg.CountString", "internal/bytealg.IndexByteString", "internal/bytealg.IndexString", "internal/abi.NoEscape"], recurses := true, named := ["internal/bytealg.MaxLen"], apart := false, narrowed := true }
def EditDiffsUptoSaid : Prop := editDiffsUptoRow.holds Try.pinned (OpenSpec.upto editDiffsSpec)

/-- 'pleacherlaw04.EditApplies', WHERE WHAT IT READS IS OF BULK AT MOST 1048576: true; the input reads as it did. -/
def editAppliesUptoRow : OpenClaim := { program := "ytdifekkamjoepaa", sum := "0dd9fda120e42d7577749cc2de04249d628c229814f7787a842b64d563200532", func := "pleacher/pleacherlaw04.EditApplies", spec := "editApplies", inPlace := ["internal/bytealg.CountString", "internal/bytealg.IndexByteString", "internal/bytealg.IndexString", "internal/abi.NoEscape"], recurses := true, named := ["internal/bytealg.MaxLen"], apart := false, narrowed := true }
def EditAppliesUptoSaid : Prop := editAppliesUptoRow.holds Try.pinned (OpenSpec.upto editAppliesSpec)

end Rows
end Go.Proofs.Ytdifekkamjoepaa
