/-
  DERIVED. GIVEN WITH THE SEED: THE CARDS: each row of YtdcfbgmbaniglaaGreatDoorRows.lean that lists a variable, with what it lists TIED to the program's text (the seventh form; the later family's looks); each row that meets fmt, with fmt's text TOLD by the authors' own Lean function (tested against real Go, not proved from fmt's source: count such statements apart). THE CARD IS WHAT COUNTS. Prove the row's statement (the work); the ties are given (YtdcfbgmbaniglaaGreatDoorTie.lean); close each card by the builder's one call (the guide's Derived/Test/ToyasCard.lean, 'card_holds'). Laid BY PROGRAM, IN A SANDBOX (cutbox-door.mjs). By AI agents, Wed Nov 11 2026. No macro, syntax, notation, axiom, sorry.
-/
import Derived.Test.YtdcfbgmbaniglaaGreatDoorRows
import GoSem.ClaimSeven
namespace Go.Proofs.YtdcfbgmbaniglaaGreatDoor
namespace Rows

/-- THE TIED CARD OF 'sosoptlaw13.SimplexExtreme'. -/
def simplexExtremeCard : Claim7 := { stood := { row := simplexExtremeRow, standIns := [], harness := (true, "ca13ed52aa73e26b1f1858c515a13ce3941ea870fffdf75000a090f563da4b0f"), looks := false }, kinds := [], alts := [], laidByText := true, laidKinds := [.data, .data, .data], laidTests := true, laidLooks := .later }
def SimplexExtremeCardSaid : Prop := Claim7.holds Tryz.pinned (.plain (OpenSpec.ofChange simplexExtremeSpec)) simplexExtremeCard

/-- THE SECOND FORM's CARD OF 'sosoptlaw13.SimplexExtreme'. -/
def simplexExtremeUptoCard : Claim7 := { stood := { row := simplexExtremeUptoRow, standIns := [], harness := (true, "ca13ed52aa73e26b1f1858c515a13ce3941ea870fffdf75000a090f563da4b0f"), looks := false }, kinds := [], alts := [], laidByText := true, laidKinds := [.data, .data, .data], laidTests := true, laidLooks := .later }
def SimplexExtremeUptoCardSaid : Prop := Claim7.holds Tryz.pinned (.plain (OpenSpec.upto simplexExtremeSpec)) simplexExtremeUptoCard
end Rows
end Go.Proofs.YtdcfbgmbaniglaaGreatDoor
