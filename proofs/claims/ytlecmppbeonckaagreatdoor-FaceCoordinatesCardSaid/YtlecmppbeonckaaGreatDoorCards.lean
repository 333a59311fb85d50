/-
  DERIVED. GIVEN WITH THE SEED: THE CARDS: each row of YtlecmppbeonckaaGreatDoorRows.lean that lists a variable, with what it lists TIED to the program's text (the seventh form; the later family's looks); each row that meets fmt, with fmt's text TOLD by the authors' own Lean function (tested against real Go, not proved from fmt's source: count such statements apart). THE CARD IS WHAT COUNTS. Prove the row's statement (the work); the ties are given (YtlecmppbeonckaaGreatDoorTie.lean); close each card by the builder's one call (the guide's Derived/Test/ToyasCard.lean, 'card_holds'). Laid BY PROGRAM, IN A SANDBOX (cutbox-door.mjs). By AI agents, Wed Nov 11 2026. No macro, syntax, notation, axiom, sorry.
-/
import Derived.Test.YtlecmppbeonckaaGreatDoorRows
import GoSem.ClaimSeven
namespace Go.Proofs.YtlecmppbeonckaaGreatDoor
namespace Rows

/-- THE TIED CARD OF 'sosoptlaw27.FaceCoordinates'. -/
def faceCoordinatesCard : Claim7 := { stood := { row := faceCoordinatesRow, standIns := [], harness := (true, "35f337968a27ad70b23435403b4c5477a536a00aa88522afb9437e400bdaafd4"), looks := false }, kinds := [], alts := [], laidByText := true, laidKinds := [.data, .data, .data], laidTests := true, laidLooks := .later }
def FaceCoordinatesCardSaid : Prop := Claim7.holds Tryz.pinned (.plain (OpenSpec.ofChange faceCoordinatesSpec)) faceCoordinatesCard

/-- THE SECOND FORM's CARD OF 'sosoptlaw27.FaceCoordinates'. -/
def faceCoordinatesUptoCard : Claim7 := { stood := { row := faceCoordinatesUptoRow, standIns := [], harness := (true, "35f337968a27ad70b23435403b4c5477a536a00aa88522afb9437e400bdaafd4"), looks := false }, kinds := [], alts := [], laidByText := true, laidKinds := [.data, .data, .data], laidTests := true, laidLooks := .later }
def FaceCoordinatesUptoCardSaid : Prop := Claim7.holds Tryz.pinned (.plain (OpenSpec.upto faceCoordinatesSpec)) faceCoordinatesUptoCard
end Rows
end Go.Proofs.YtlecmppbeonckaaGreatDoor
