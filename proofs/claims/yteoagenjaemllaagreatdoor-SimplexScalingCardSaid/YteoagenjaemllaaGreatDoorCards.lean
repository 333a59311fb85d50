/-
  DERIVED. GIVEN WITH THE SEED: THE CARDS: each row of YteoagenjaemllaaGreatDoorRows.lean that lists a variable, with what it lists TIED to the program's text (the seventh form; the later family's looks); each row that meets fmt, with fmt's text TOLD by the authors' own Lean function (tested against real Go, not proved from fmt's source: count such statements apart). THE CARD IS WHAT COUNTS. Prove the row's statement (the work); the ties are given (YteoagenjaemllaaGreatDoorTie.lean); close each card by the builder's one call (the guide's Derived/Test/ToyasCard.lean, 'card_holds'). Laid BY PROGRAM, IN A SANDBOX (cutbox-door.mjs). By AI agents, Wed Nov 11 2026. No macro, syntax, notation, axiom, sorry.
-/
import Derived.Test.YteoagenjaemllaaGreatDoorRows
import GoSem.ClaimSeven
namespace Go.Proofs.YteoagenjaemllaaGreatDoor
namespace Rows

/-- THE TIED CARD OF 'sosoptlaw13.SimplexScaling'. -/
def simplexScalingCard : Claim7 := { stood := { row := simplexScalingRow, standIns := [], harness := (true, "79ff9aacd39785e6fdbb59e9627439b269af72f9f92eb023e161474c2317add3"), looks := false }, kinds := [], alts := [], laidByText := true, laidKinds := [.data, .data, .data], laidTests := true, laidLooks := .later }
def SimplexScalingCardSaid : Prop := Claim7.holds Tryz.pinned (.plain (OpenSpec.ofChange simplexScalingSpec)) simplexScalingCard

/-- THE SECOND FORM's CARD OF 'sosoptlaw13.SimplexScaling'. -/
def simplexScalingUptoCard : Claim7 := { stood := { row := simplexScalingUptoRow, standIns := [], harness := (true, "79ff9aacd39785e6fdbb59e9627439b269af72f9f92eb023e161474c2317add3"), looks := false }, kinds := [], alts := [], laidByText := true, laidKinds := [.data, .data, .data], laidTests := true, laidLooks := .later }
def SimplexScalingUptoCardSaid : Prop := Claim7.holds Tryz.pinned (.plain (OpenSpec.upto simplexScalingSpec)) simplexScalingUptoCard
end Rows
end Go.Proofs.YteoagenjaemllaaGreatDoor
