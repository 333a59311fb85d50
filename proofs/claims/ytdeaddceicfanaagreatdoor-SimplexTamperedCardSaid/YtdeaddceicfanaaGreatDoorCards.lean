/-
  DERIVED. GIVEN WITH THE SEED: THE CARDS: each row of YtdeaddceicfanaaGreatDoorRows.lean that lists a variable, with what it lists TIED to the program's text (the seventh form; the later family's looks); each row that meets fmt, with fmt's text TOLD by the authors' own Lean function (tested against real Go, not proved from fmt's source: count such statements apart). THE CARD IS WHAT COUNTS. Prove the row's statement (the work); the ties are given (YtdeaddceicfanaaGreatDoorTie.lean); close each card by the builder's one call (the guide's Derived/Test/ToyasCard.lean, 'card_holds'). Laid BY PROGRAM, IN A SANDBOX (cutbox-door.mjs). By AI agents, Wed Nov 11 2026. No macro, syntax, notation, axiom, sorry.
-/
import Derived.Test.YtdeaddceicfanaaGreatDoorRows
import GoSem.ClaimSeven
namespace Go.Proofs.YtdeaddceicfanaaGreatDoor
namespace Rows

/-- THE TIED CARD OF 'sosoptlaw13.SimplexTampered'. -/
def simplexTamperedCard : Claim7 := { stood := { row := simplexTamperedRow, standIns := [], harness := (true, "ffc3a6be03bfa06b30613ea97f3871d2772a58193fdf1ed1c2bd602bf69f3673"), looks := false }, kinds := [], alts := [], laidByText := true, laidKinds := [.data, .data, .data], laidTests := true, laidLooks := .later }
def SimplexTamperedCardSaid : Prop := Claim7.holds Tryz.pinned (.plain (OpenSpec.ofChange simplexTamperedSpec)) simplexTamperedCard

/-- THE SECOND FORM's CARD OF 'sosoptlaw13.SimplexTampered'. -/
def simplexTamperedUptoCard : Claim7 := { stood := { row := simplexTamperedUptoRow, standIns := [], harness := (true, "ffc3a6be03bfa06b30613ea97f3871d2772a58193fdf1ed1c2bd602bf69f3673"), looks := false }, kinds := [], alts := [], laidByText := true, laidKinds := [.data, .data, .data], laidTests := true, laidLooks := .later }
def SimplexTamperedUptoCardSaid : Prop := Claim7.holds Tryz.pinned (.plain (OpenSpec.upto simplexTamperedSpec)) simplexTamperedUptoCard
end Rows
end Go.Proofs.YtdeaddceicfanaaGreatDoor
