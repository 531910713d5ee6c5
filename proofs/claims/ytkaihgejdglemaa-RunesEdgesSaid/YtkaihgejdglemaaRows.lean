/-
  No cell of these rows narrows 'for every input' (looked for: loops, veiled, ifaces, maps, wideKeys, modest, calm, conditions, laid).
  DERIVED. THE GIVEN ROWS OF THIS SEAT. 4 by the template 'for every input the law returns true; each argument reads behind the call as it read before'; 0 by the template 'total and deterministic' (their statements: YtkaihgejdglemaaTotals.lean).
  GIVEN WITH THE SEED: the statements are not yours to turn. If you find one false, say at which input.
  Laid BY PROGRAM, IN A SANDBOX (cutbox-rows.mjs): the forced cells as the released guide's own fill.sh prints them over the translation 3459c60c52091956… (all of the seat's roots in one cut). By AI agents, Wed Nov 11 2026. No macro, syntax, notation, axiom, sorry.
-/
import Derived.Test.YtkaihgejdglemaaChecked
import GoSem.Claim
import GoSem.ClaimJoined
import GoSem.ClaimMapViews
import Derived.JoinedTies
import Derived.KernelRfl
namespace Go.Proofs.Ytkaihgejdglemaa
/- THE CELL 'sum', in the pinned program and in every row, IS THE sha256 OF THE DUMP (.gsa) THAT YtkaihgejdglemaaProg.lean LOADS. Nothing in Lean hashes anything: it is a label: what it is worth is what the hold of that sum in a sandbox is worth. -/
noncomputable def Try.pinned : Pinned := { name := "ytkaihgejdglemaa", sum := "3459c60c52091956345c11c239eb73967d3b24056ab12fd321d2e7d112992b93", checked := Try.checked }
namespace Rows
def none {H : Type} : Left H := { results := [], args := [] }

/-- 'pleacherlaw01.RunesWhole': WHATEVER THE INPUT: true; the input reads as it did. -/
def runesWholeSpec : ChangeSpec := { name := "runesWhole", fn := fun _ => fun
  | [d1, d2] => { results := [.lit (.bool true)], args := [d1, d2] }
  | _ => none }
def runesWholeRow : OpenClaim := { program := "ytkaihgejdglemaa", sum := "3459c60c52091956345c11c239eb73967d3b24056ab12fd321d2e7d112992b93", func := "pleacher/pleacherlaw01.RunesWhole", spec := "runesWhole", apart := false }
def RunesWholeSaid : Prop := runesWholeRow.holds Try.pinned (OpenSpec.ofChange runesWholeSpec)

/-- ITS FALSE NEIGHBOUR: 'it returns false'. Refute it at one input. -/
def runesWholeWrong : ChangeSpec := { name := "runesWhole", fn := fun _ => fun
  | [d1, d2] => { results := [.lit (.bool false)], args := [d1, d2] }
  | _ => none }
def RunesWholeWrongFalsely : Prop := runesWholeRow.holds Try.pinned (OpenSpec.ofChange runesWholeWrong)

/-- 'pleacherlaw01.RunesEdges': WHATEVER THE INPUT: true; the input reads as it did. -/
def runesEdgesSpec : ChangeSpec := { name := "runesEdges", fn := fun _ => fun
  | [d1, d2] => { results := [.lit (.bool true)], args := [d1, d2] }
  | _ => none }
def runesEdgesRow : OpenClaim := { program := "ytkaihgejdglemaa", sum := "3459c60c52091956345c11c239eb73967d3b24056ab12fd321d2e7d112992b93", func := "pleacher/pleacherlaw01.RunesEdges", spec := "runesEdges", apart := false }
def RunesEdgesSaid : Prop := runesEdgesRow.holds Try.pinned (OpenSpec.ofChange runesEdgesSpec)

/-- ITS FALSE NEIGHBOUR: 'it returns false'. Refute it at one input. -/
def runesEdgesWrong : ChangeSpec := { name := "runesEdges", fn := fun _ => fun
  | [d1, d2] => { results := [.lit (.bool false)], args := [d1, d2] }
  | _ => none }
def RunesEdgesWrongFalsely : Prop := runesEdgesRow.holds Try.pinned (OpenSpec.ofChange runesEdgesWrong)

/-- 'pleacherlaw01.RunesPieces': WHATEVER THE INPUT: true; the input reads as it did. -/
def runesPiecesSpec : ChangeSpec := { name := "runesPieces", fn := fun _ => fun
  | [d1, d2, d3] => { results := [.lit (.bool true)], args := [d1, d2, d3] }
  | _ => none }
def runesPiecesRow : OpenClaim := { program := "ytkaihgejdglemaa", sum := "3459c60c52091956345c11c239eb73967d3b24056ab12fd321d2e7d112992b93", func := "pleacher/pleacherlaw01.RunesPieces", spec := "runesPieces", apart := false }
def RunesPiecesSaid : Prop := runesPiecesRow.holds Try.pinned (OpenSpec.ofChange runesPiecesSpec)

/-- ITS FALSE NEIGHBOUR: 'it returns false'. Refute it at one input. -/
def runesPiecesWrong : ChangeSpec := { name := "runesPieces", fn := fun _ => fun
  | [d1, d2, d3] => { results := [.lit (.bool false)], args := [d1, d2, d3] }
  | _ => none }
def RunesPiecesWrongFalsely : Prop := runesPiecesRow.holds Try.pinned (OpenSpec.ofChange runesPiecesWrong)

/-- 'pleacherlaw01.RunesCounts': WHATEVER THE INPUT: true; the input reads as it did. -/
def runesCountsSpec : ChangeSpec := { name := "runesCounts", fn := fun _ => fun
  | [d1, d2] => { results := [.lit (.bool true)], args := [d1, d2] }
  | _ => none }
def runesCountsRow : OpenClaim := { program := "ytkaihgejdglemaa", sum := "3459c60c52091956345c11c239eb73967d3b24056ab12fd321d2e7d112992b93", func := "pleacher/pleacherlaw01.RunesCounts", spec := "runesCounts", apart := false }
def RunesCountsSaid : Prop := runesCountsRow.holds Try.pinned (OpenSpec.ofChange runesCountsSpec)

/-- ITS FALSE NEIGHBOUR: 'it returns false'. Refute it at one input. -/
def runesCountsWrong : ChangeSpec := { name := "runesCounts", fn := fun _ => fun
  | [d1, d2] => { results := [.lit (.bool false)], args := [d1, d2] }
  | _ => none }
def RunesCountsWrongFalsely : Prop := runesCountsRow.holds Try.pinned (OpenSpec.ofChange runesCountsWrong)

/- THE SECOND FORM. 'bulk': how many values and letters a reading holds, each counted each time it is reached (what is shared counts as often as it is met; a slice's spare places count too). A statement '..UptoSaid' is the law's where the arguments, and the package variables that the reading takes, are together of bulk at most 1048576: NARROWER than '..Said'. Prove '..Said' where nothing that the law and all that it calls make is longer than what came in: it says more and counts as full. Else prove '..UptoSaid'. A law counts once. -/
mutual
def uptoBulk {H : Type} : DataW H → Nat
  | .lit (.string bytes) => bytes.length + 1
  | .lit _ => 1
  | .nil => 1
  | .ptr d => uptoBulk d + 1
  | .slice elems spare => uptoBulkAll elems + uptoBulkAll spare + 1
  | .agg parts => uptoBulkAll parts + 1
  | .iface _ d => uptoBulk d + 1
  | .map entries => uptoBulkEntries entries + 1
  | .held _ => 1
def uptoBulkAll {H : Type} : List (DataW H) → Nat
  | [] => 0
  | d :: r => uptoBulk d + uptoBulkAll r
def uptoBulkEntries {H : Type} : List (Lit × DataW H) → Nat
  | [] => 0
  | x :: r => uptoBulkEntry x + uptoBulkEntries r
def uptoBulkEntry {H : Type} : Lit × DataW H → Nat
  | (.string bytes, d) => bytes.length + uptoBulk d + 1
  | (_, d) => uptoBulk d + 1
 end
def uptoSmall : (H : Type) → List (DataW H) → Bool := fun _ ds => decide (uptoBulkAll ds ≤ 1048576)
def OpenSpec.upto (s : _root_.Go.ChangeSpec) : _root_.Go.OpenSpec := { _root_.Go.OpenSpec.ofChange s with cond := some uptoSmall }

/-- 'pleacherlaw01.RunesWhole', WHERE WHAT IT READS IS OF BULK AT MOST 1048576: true; the input reads as it did. -/
def runesWholeUptoRow : OpenClaim := { program := "ytkaihgejdglemaa", sum := "3459c60c52091956345c11c239eb73967d3b24056ab12fd321d2e7d112992b93", func := "pleacher/pleacherlaw01.RunesWhole", spec := "runesWhole", apart := false, narrowed := true }
def RunesWholeUptoSaid : Prop := runesWholeUptoRow.holds Try.pinned (OpenSpec.upto runesWholeSpec)

/-- 'pleacherlaw01.RunesEdges', WHERE WHAT IT READS IS OF BULK AT MOST 1048576: true; the input reads as it did. -/
def runesEdgesUptoRow : OpenClaim := { program := "ytkaihgejdglemaa", sum := "3459c60c52091956345c11c239eb73967d3b24056ab12fd321d2e7d112992b93", func := "pleacher/pleacherlaw01.RunesEdges", spec := "runesEdges", apart := false, narrowed := true }
def RunesEdgesUptoSaid : Prop := runesEdgesUptoRow.holds Try.pinned (OpenSpec.upto runesEdgesSpec)

/-- 'pleacherlaw01.RunesPieces', WHERE WHAT IT READS IS OF BULK AT MOST 1048576: true; the input reads as it did. -/
def runesPiecesUptoRow : OpenClaim := { program := "ytkaihgejdglemaa", sum := "3459c60c52091956345c11c239eb73967d3b24056ab12fd321d2e7d112992b93", func := "pleacher/pleacherlaw01.RunesPieces", spec := "runesPieces", apart := false, narrowed := true }
def RunesPiecesUptoSaid : Prop := runesPiecesUptoRow.holds Try.pinned (OpenSpec.upto runesPiecesSpec)

/-- 'pleacherlaw01.RunesCounts', WHERE WHAT IT READS IS OF BULK AT MOST 1048576: true; the input reads as it did. -/
def runesCountsUptoRow : OpenClaim := { program := "ytkaihgejdglemaa", sum := "3459c60c52091956345c11c239eb73967d3b24056ab12fd321d2e7d112992b93", func := "pleacher/pleacherlaw01.RunesCounts", spec := "runesCounts", apart := false, narrowed := true }
def RunesCountsUptoSaid : Prop := runesCountsUptoRow.holds Try.pinned (OpenSpec.upto runesCountsSpec)

end Rows
end Go.Proofs.Ytkaihgejdglemaa
