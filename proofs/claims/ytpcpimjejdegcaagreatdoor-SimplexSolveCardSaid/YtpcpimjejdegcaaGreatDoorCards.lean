/-
  DERIVED. GIVEN WITH THE SEED: THE CARDS: each row of YtpcpimjejdegcaaGreatDoorRows.lean that lists a variable, with what it lists TIED to the program's text (the seventh form; the later family's looks); each row that meets fmt, with fmt's text TOLD by the authors' own Lean function (tested against real Go, not proved from fmt's source: count such statements apart). THE CARD IS WHAT COUNTS. Prove the row's statement (the work); the ties are given (YtpcpimjejdegcaaGreatDoorTie.lean); close each card by the builder's one call (the guide's Derived/Test/ToyasCard.lean, 'card_holds'). Laid BY PROGRAM, IN A SANDBOX (cutbox-door.mjs). By AI agents, Wed Nov 11 2026. No macro, syntax, notation, axiom, sorry.
-/
import Derived.Test.YtpcpimjejdegcaaGreatDoorRows
import GoSem.ClaimSeven
namespace Go.Proofs.YtpcpimjejdegcaaGreatDoor
namespace Rows

/-- THE TIED CARD OF 'sosoptlaw13.SimplexSolve'. -/
def simplexSolveCard : Claim7 := { stood := { row := simplexSolveRow, standIns := [], harness := (true, "771eca0c01e9ebb3a7f053001355a7e7ee30ae131c7cb37d47a2411a18315232"), looks := false }, kinds := [], alts := [], laidByText := true, laidKinds := [.data, .data, .data], laidTests := true, laidLooks := .later }
def SimplexSolveCardSaid : Prop := Claim7.holds Tryz.pinned (.plain (OpenSpec.ofChange simplexSolveSpec)) simplexSolveCard

/-- THE SECOND FORM's CARD OF 'sosoptlaw13.SimplexSolve'. -/
def simplexSolveUptoCard : Claim7 := { stood := { row := simplexSolveUptoRow, standIns := [], harness := (true, "771eca0c01e9ebb3a7f053001355a7e7ee30ae131c7cb37d47a2411a18315232"), looks := false }, kinds := [], alts := [], laidByText := true, laidKinds := [.data, .data, .data], laidTests := true, laidLooks := .later }
def SimplexSolveUptoCardSaid : Prop := Claim7.holds Tryz.pinned (.plain (OpenSpec.upto simplexSolveSpec)) simplexSolveUptoCard
end Rows
end Go.Proofs.YtpcpimjejdegcaaGreatDoor
