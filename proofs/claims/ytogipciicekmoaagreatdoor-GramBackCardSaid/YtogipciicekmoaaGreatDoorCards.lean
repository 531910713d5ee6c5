/-
  DERIVED. GIVEN WITH THE SEED: THE CARDS: each row of YtogipciicekmoaaGreatDoorRows.lean that lists a variable, with what it lists TIED to the program's text (the seventh form; the later family's looks); each row that meets fmt, with fmt's text TOLD by the authors' own Lean function (tested against real Go, not proved from fmt's source: count such statements apart). THE CARD IS WHAT COUNTS. Prove the row's statement (the work); the ties are given (YtogipciicekmoaaGreatDoorTie.lean); close each card by the builder's one call (the guide's Derived/Test/ToyasCard.lean, 'card_holds'). Laid BY PROGRAM, IN A SANDBOX (cutbox-door.mjs). By AI agents, Wed Nov 11 2026. No macro, syntax, notation, axiom, sorry.
-/
import Derived.Test.YtogipciicekmoaaGreatDoorRows
import GoSem.ClaimSeven
namespace Go.Proofs.YtogipciicekmoaaGreatDoor
namespace Rows

/-- THE TIED CARD OF 'pleacherlaw10.GramTexts'. -/
def gramTextsCard : Claim7 := { stood := { row := gramTextsRow, standIns := [], harness := (true, "136f599b05ac8852f6a959830d3dfa438c1ce7b303e6a516b343f09da0c34e56"), looks := false }, kinds := [], alts := [], laidByText := true, laidKinds := [.data, .data, .data, .data, .pinned], laidTests := true, laidLooks := .later }
def GramTextsCardSaid : Prop := Claim7.holds Tryz.pinned (.plain (OpenSpec.ofChange gramTextsSpec)) gramTextsCard

/-- THE TIED CARD OF 'pleacherlaw10.GramBack'. -/
def gramBackCard : Claim7 := { stood := { row := gramBackRow, standIns := [], harness := (true, "136f599b05ac8852f6a959830d3dfa438c1ce7b303e6a516b343f09da0c34e56"), looks := false }, kinds := [], alts := [], laidByText := true, laidKinds := [.data, .data, .data, .data, .pinned], laidTests := true, laidLooks := .later }
def GramBackCardSaid : Prop := Claim7.holds Tryz.pinned (.plain (OpenSpec.ofChange gramBackSpec)) gramBackCard

/-- THE SECOND FORM's CARD OF 'pleacherlaw10.GramTexts'. -/
def gramTextsUptoCard : Claim7 := { stood := { row := gramTextsUptoRow, standIns := [], harness := (true, "136f599b05ac8852f6a959830d3dfa438c1ce7b303e6a516b343f09da0c34e56"), looks := false }, kinds := [], alts := [], laidByText := true, laidKinds := [.data, .data, .data, .data, .pinned], laidTests := true, laidLooks := .later }
def GramTextsUptoCardSaid : Prop := Claim7.holds Tryz.pinned (.plain (OpenSpec.upto gramTextsSpec)) gramTextsUptoCard

/-- THE SECOND FORM's CARD OF 'pleacherlaw10.GramBack'. -/
def gramBackUptoCard : Claim7 := { stood := { row := gramBackUptoRow, standIns := [], harness := (true, "136f599b05ac8852f6a959830d3dfa438c1ce7b303e6a516b343f09da0c34e56"), looks := false }, kinds := [], alts := [], laidByText := true, laidKinds := [.data, .data, .data, .data, .pinned], laidTests := true, laidLooks := .later }
def GramBackUptoCardSaid : Prop := Claim7.holds Tryz.pinned (.plain (OpenSpec.upto gramBackSpec)) gramBackUptoCard
end Rows
end Go.Proofs.YtogipciicekmoaaGreatDoor
