/-
  DERIVED. GIVEN WITH THE SEED: THE CARDS: each row of YtogipciicekmoaaDoorRows.lean that lists a variable, with what it lists TIED to the program's text (the seventh form; the later family's looks); each row that meets fmt, with fmt's text TOLD by the authors' own Lean function (tested against real Go, not proved from fmt's source: count such statements apart). THE CARD IS WHAT COUNTS. Prove the row's statement (the work); the ties are given (YtogipciicekmoaaDoorTie.lean); close each card by the builder's one call (the guide's Derived/Test/ToyasCard.lean, 'card_holds'). Laid BY PROGRAM, IN A SANDBOX (cutbox-door.mjs). By AI agents, Wed Nov 11 2026. No macro, syntax, notation, axiom, sorry.
-/
import Derived.Test.YtogipciicekmoaaDoorRows
import GoSem.ClaimSeven
namespace Go.Proofs.YtogipciicekmoaaDoor
namespace Rows

/-- THE TIED CARD OF 'pleacherlaw10.GramLines'. -/
def gramLinesCard : Claim7 := { stood := { row := gramLinesRow, standIns := [], harness := (true, "d64a0f6f596704035e547151508ce5b9db19ee0495ccb0982d7d8da466a1aead"), looks := false }, kinds := [], alts := [], laidByText := true, laidKinds := [.data, .pinned], laidTests := true, laidLooks := .later }
def GramLinesCardSaid : Prop := Claim7.holds Tryd.pinned (.plain (OpenSpec.ofChange gramLinesSpec)) gramLinesCard

/-- THE TIED CARD OF 'pleacherlaw10.GramReads'. -/
def gramReadsCard : Claim7 := { stood := { row := gramReadsRow, standIns := [], harness := (true, "d64a0f6f596704035e547151508ce5b9db19ee0495ccb0982d7d8da466a1aead"), looks := false }, kinds := [], alts := [], laidByText := true, laidKinds := [.data, .pinned], laidTests := true, laidLooks := .later }
def GramReadsCardSaid : Prop := Claim7.holds Tryd.pinned (.plain (OpenSpec.ofChange gramReadsSpec)) gramReadsCard

/-- THE SECOND FORM's CARD OF 'pleacherlaw10.GramLines'. -/
def gramLinesUptoCard : Claim7 := { stood := { row := gramLinesUptoRow, standIns := [], harness := (true, "d64a0f6f596704035e547151508ce5b9db19ee0495ccb0982d7d8da466a1aead"), looks := false }, kinds := [], alts := [], laidByText := true, laidKinds := [.data, .pinned], laidTests := true, laidLooks := .later }
def GramLinesUptoCardSaid : Prop := Claim7.holds Tryd.pinned (.plain (OpenSpec.upto gramLinesSpec)) gramLinesUptoCard

/-- THE SECOND FORM's CARD OF 'pleacherlaw10.GramReads'. -/
def gramReadsUptoCard : Claim7 := { stood := { row := gramReadsUptoRow, standIns := [], harness := (true, "d64a0f6f596704035e547151508ce5b9db19ee0495ccb0982d7d8da466a1aead"), looks := false }, kinds := [], alts := [], laidByText := true, laidKinds := [.data, .pinned], laidTests := true, laidLooks := .later }
def GramReadsUptoCardSaid : Prop := Claim7.holds Tryd.pinned (.plain (OpenSpec.upto gramReadsSpec)) gramReadsUptoCard
end Rows
end Go.Proofs.YtogipciicekmoaaDoor
