/-
  DERIVED. GIVEN WITH THE SEED: THE CARDS: each row of YtpmlimdilajidaaDoorRows.lean that lists a variable, with what it lists TIED to the program's text (the seventh form; the later family's looks); each row that meets fmt, with fmt's text TOLD by the authors' own Lean function (tested against real Go, not proved from fmt's source: count such statements apart). THE CARD IS WHAT COUNTS. Prove the row's statement (the work); the ties are given (YtpmlimdilajidaaDoorTie.lean); close each card by the builder's one call (the guide's Derived/Test/ToyasCard.lean, 'card_holds'). Laid BY PROGRAM, IN A SANDBOX (cutbox-door.mjs). By AI agents, Wed Nov 11 2026. No macro, syntax, notation, axiom, sorry.
-/
import Derived.Test.YtpmlimdilajidaaDoorRows
import GoSem.ClaimSeven
namespace Go.Proofs.YtpmlimdilajidaaDoor
namespace Rows

/-- THE TIED CARD OF 'pleacherlaw05.BytesetsOf'. -/
def bytesetsOfCard : Claim7 := { stood := { row := bytesetsOfRow, standIns := [], harness := (true, "5a92e8d31bb02c82c805e00c41c143c6d86d1705518cdd1430f8dc42d7b768a7"), looks := false }, kinds := [], alts := [], laidByText := true, laidKinds := [.data], laidTests := true, laidLooks := .later }
def BytesetsOfCardSaid : Prop := Claim7.holds Tryd.pinned (.plain (OpenSpec.ofChange bytesetsOfSpec)) bytesetsOfCard

/-- THE SECOND FORM's CARD OF 'pleacherlaw05.BytesetsOf'. -/
def bytesetsOfUptoCard : Claim7 := { stood := { row := bytesetsOfUptoRow, standIns := [], harness := (true, "5a92e8d31bb02c82c805e00c41c143c6d86d1705518cdd1430f8dc42d7b768a7"), looks := false }, kinds := [], alts := [], laidByText := true, laidKinds := [.data], laidTests := true, laidLooks := .later }
def BytesetsOfUptoCardSaid : Prop := Claim7.holds Tryd.pinned (.plain (OpenSpec.upto bytesetsOfSpec)) bytesetsOfUptoCard
end Rows
end Go.Proofs.YtpmlimdilajidaaDoor
