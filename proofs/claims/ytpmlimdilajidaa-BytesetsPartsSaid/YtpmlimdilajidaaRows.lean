/-
  No cell of these rows narrows 'for every input' (looked for: loops, veiled, ifaces, maps, wideKeys, modest, calm, conditions, laid).
  DERIVED. THE GIVEN ROWS OF THIS SEAT. 3 by the template 'for every input the law returns true; each argument reads behind the call as it read before'; 0 by the template 'total and deterministic' (their statements: YtpmlimdilajidaaTotals.lean).
  GIVEN WITH THE SEED: the statements are not yours to turn. If you find one false, say at which input.
  Laid BY PROGRAM, IN A SANDBOX (cutbox-rows.mjs): the forced cells as the released guide's own fill.sh prints them over the translation 4a47e6006421c049… (all of the seat's roots in one cut). By AI agents, Wed Nov 11 2026. No macro, syntax, notation, axiom, sorry.
-/
import Derived.Test.YtpmlimdilajidaaChecked
import GoSem.Claim
import GoSem.ClaimJoined
import GoSem.ClaimMapViews
import Derived.JoinedTies
import Derived.KernelRfl
namespace Go.Proofs.Ytpmlimdilajidaa
/- THE CELL 'sum', in the pinned program and in every row, IS THE sha256 OF THE DUMP (.gsa) THAT YtpmlimdilajidaaProg.lean LOADS. Nothing in Lean hashes anything: it is a label: what it is worth is what the hold of that sum in a sandbox is worth. -/
noncomputable def Try.pinned : Pinned := { name := "ytpmlimdilajidaa", sum := "4a47e6006421c049ffe7c3cecb297614d57d6f60cda3a30da530386fb505eb83", checked := Try.checked }
namespace Rows
def none {H : Type} : Left H := { results := [], args := [] }

/-- 'pleacherlaw05.BytesetsJoin': WHATEVER THE INPUT: true; the input reads as it did. -/
def bytesetsJoinSpec : ChangeSpec := { name := "bytesetsJoin", fn := fun _ => fun
  | [d1, d2, d3, d4] => { results := [.lit (.bool true)], args := [d1, d2, d3, d4] }
  | _ => none }
def bytesetsJoinRow : OpenClaim := { program := "ytpmlimdilajidaa", sum := "4a47e6006421c049ffe7c3cecb297614d57d6f60cda3a30da530386fb505eb83", func := "pleacher/pleacherlaw05.BytesetsJoin", spec := "bytesetsJoin", unfollowed := true, recurses := true, plainKeys := false, apart := false }
def BytesetsJoinSaid : Prop := bytesetsJoinRow.holds Try.pinned (OpenSpec.ofChange bytesetsJoinSpec)

/-- ITS FALSE NEIGHBOUR: 'it returns false'. Refute it at one input. -/
def bytesetsJoinWrong : ChangeSpec := { name := "bytesetsJoin", fn := fun _ => fun
  | [d1, d2, d3, d4] => { results := [.lit (.bool false)], args := [d1, d2, d3, d4] }
  | _ => none }
def BytesetsJoinWrongFalsely : Prop := bytesetsJoinRow.holds Try.pinned (OpenSpec.ofChange bytesetsJoinWrong)

/-- 'pleacherlaw05.BytesetsClasses': WHATEVER THE INPUT: true; the input reads as it did. -/
def bytesetsClassesSpec : ChangeSpec := { name := "bytesetsClasses", fn := fun _ => fun
  | [d1, d2] => { results := [.lit (.bool true)], args := [d1, d2] }
  | _ => none }
def bytesetsClassesRow : OpenClaim := { program := "ytpmlimdilajidaa", sum := "4a47e6006421c049ffe7c3cecb297614d57d6f60cda3a30da530386fb505eb83", func := "pleacher/pleacherlaw05.BytesetsClasses", spec := "bytesetsClasses", unfollowed := true, recurses := true, plainKeys := false, apart := false }
def BytesetsClassesSaid : Prop := bytesetsClassesRow.holds Try.pinned (OpenSpec.ofChange bytesetsClassesSpec)

/-- ITS FALSE NEIGHBOUR: 'it returns false'. Refute it at one input. -/
def bytesetsClassesWrong : ChangeSpec := { name := "bytesetsClasses", fn := fun _ => fun
  | [d1, d2] => { results := [.lit (.bool false)], args := [d1, d2] }
  | _ => none }
def BytesetsClassesWrongFalsely : Prop := bytesetsClassesRow.holds Try.pinned (OpenSpec.ofChange bytesetsClassesWrong)

/-- 'pleacherlaw05.BytesetsParts': WHATEVER THE INPUT: true; the input reads as it did. -/
def bytesetsPartsSpec : ChangeSpec := { name := "bytesetsParts", fn := fun _ => fun
  | [d1, d2, d3] => { results := [.lit (.bool true)], args := [d1, d2, d3] }
  | _ => none }
def bytesetsPartsRow : OpenClaim := { program := "ytpmlimdilajidaa", sum := "4a47e6006421c049ffe7c3cecb297614d57d6f60cda3a30da530386fb505eb83", func := "pleacher/pleacherlaw05.BytesetsParts", spec := "bytesetsParts", unfollowed := true, recurses := true, plainKeys := false, apart := false }
def BytesetsPartsSaid : Prop := bytesetsPartsRow.holds Try.pinned (OpenSpec.ofChange bytesetsPartsSpec)

/-- ITS FALSE NEIGHBOUR: 'it returns false'. Refute it at one input. -/
def bytesetsPartsWrong : ChangeSpec := { name := "bytesetsParts", fn := fun _ => fun
  | [d1, d2, d3] => { results := [.lit (.bool false)], args := [d1, d2, d3] }
  | _ => none }
def BytesetsPartsWrongFalsely : Prop := bytesetsPartsRow.holds Try.pinned (OpenSpec.ofChange bytesetsPartsWrong)

/- THE SECOND FORM. 'bulk': how many values and letters a reading holds, each counted each time it is reached (what is shared counts as often as it is met; a slice's spare places count too). A statement '..UptoSaid' is the law's where the arguments, and the package variables that the reading takes, are together of bulk at most 1048576: NARROWER than '..Said'. Prove '..Said' where nothing that the law and all that it calls make is longer than what came in: it says more and counts as full. Else prove '..UptoSaid'. A law counts once. -/
mutual
def uptoBulk {H : Type} : DataW H → Nat
  | .lit (.string bytes) => bytes.length + 1
  | .lit _ => 1
  | .nil => 1
  | .ptr d => uptoBulk d + 1
  | .slice elems spare => uptoBulkAll elems + uptoBulkAll spare + 1
  | .agg parts => uptoBulkAll parts + 1
  | .iface _ d => uptoBulk d + 1
  | .map entries => uptoBulkEntries entries + 1
  | .held _ => 1
def uptoBulkAll {H : Type} : List (DataW H) → Nat
  | [] => 0
  | d :: r => uptoBulk d + uptoBulkAll r
def uptoBulkEntries {H : Type} : List (Lit × DataW H) → Nat
  | [] => 0
  | x :: r => uptoBulkEntry x + uptoBulkEntries r
def uptoBulkEntry {H : Type} : Lit × DataW H → Nat
  | (.string bytes, d) => bytes.length + uptoBulk d + 1
  | (_, d) => uptoBulk d + 1
 end
def uptoSmall : (H : Type) → List (DataW H) → Bool := fun _ ds => decide (uptoBulkAll ds ≤ 1048576)
def OpenSpec.upto (s : _root_.Go.ChangeSpec) : _root_.Go.OpenSpec := { _root_.Go.OpenSpec.ofChange s with cond := some uptoSmall }

/-- 'pleacherlaw05.BytesetsJoin', WHERE WHAT IT READS IS OF BULK AT MOST 1048576: true; the input reads as it did. -/
def bytesetsJoinUptoRow : OpenClaim := { program := "ytpmlimdilajidaa", sum := "4a47e6006421c049ffe7c3cecb297614d57d6f60cda3a30da530386fb505eb83", func := "pleacher/pleacherlaw05.BytesetsJoin", spec := "bytesetsJoin", unfollowed := true, recurses := true, plainKeys := false, apart := false, narrowed := true }
def BytesetsJoinUptoSaid : Prop := bytesetsJoinUptoRow.holds Try.pinned (OpenSpec.upto bytesetsJoinSpec)

/-- 'pleacherlaw05.BytesetsClasses', WHERE WHAT IT READS IS OF BULK AT MOST 1048576: true; the input reads as it did. -/
def bytesetsClassesUptoRow : OpenClaim := { program := "ytpmlimdilajidaa", sum := "4a47e6006421c049ffe7c3cecb297614d57d6f60cda3a30da530386fb505eb83", func := "pleacher/pleacherlaw05.BytesetsClasses", spec := "bytesetsClasses", unfollowed := true, recurses := true, plainKeys := false, apart := false, narrowed := true }
def BytesetsClassesUptoSaid : Prop := bytesetsClassesUptoRow.holds Try.pinned (OpenSpec.upto bytesetsClassesSpec)

/-- 'pleacherlaw05.BytesetsParts', WHERE WHAT IT READS IS OF BULK AT MOST 1048576: true; the input reads as it did. -/
def bytesetsPartsUptoRow : OpenClaim := { program := "ytpmlimdilajidaa", sum := "4a47e6006421c049ffe7c3cecb297614d57d6f60cda3a30da530386fb505eb83", func := "pleacher/pleacherlaw05.BytesetsParts", spec := "bytesetsParts", unfollowed := true, recurses := true, plainKeys := false, apart := false, narrowed := true }
def BytesetsPartsUptoSaid : Prop := bytesetsPartsUptoRow.holds Try.pinned (OpenSpec.upto bytesetsPartsSpec)

end Rows
end Go.Proofs.Ytpmlimdilajidaa
