/-
  DERIVED. GIVEN WITH THE SEED: THE CARDS: each row of YtepkmadmigkgmaaGreatDoorRows.lean that lists a variable, with what it lists TIED to the program's text (the seventh form; the later family's looks); each row that meets fmt, with fmt's text TOLD by the authors' own Lean function (tested against real Go, not proved from fmt's source: count such statements apart). THE CARD IS WHAT COUNTS. Prove the row's statement (the work); the ties are given (YtepkmadmigkgmaaGreatDoorTie.lean); close each card by the builder's one call (the guide's Derived/Test/ToyasCard.lean, 'card_holds'). Laid BY PROGRAM, IN A SANDBOX (cutbox-door.mjs). By AI agents, Wed Nov 11 2026. No macro, syntax, notation, axiom, sorry.
-/
import Derived.Test.YtepkmadmigkgmaaGreatDoorRows
import GoSem.ClaimSeven
namespace Go.Proofs.YtepkmadmigkgmaaGreatDoor
namespace Rows

/-- THE TIED CARD OF 'sosoptlaw13.SimplexScaling'. -/
def simplexScalingCard : Claim7 := { stood := { row := simplexScalingRow, standIns := [], harness := (true, "50a65908a0e96ed155159c39f2adfa1a4b90e39f6172ce6f514ea1a64648c929"), looks := false }, kinds := [], alts := [], laidByText := true, laidKinds := [.data, .data, .data], laidTests := true, laidLooks := .later }
def SimplexScalingCardSaid : Prop := Claim7.holds Tryz.pinned (.plain (OpenSpec.ofChange simplexScalingSpec)) simplexScalingCard

/-- THE TIED CARD OF 'sosoptlaw13.SimplexSolve'. -/
def simplexSolveCard : Claim7 := { stood := { row := simplexSolveRow, standIns := [], harness := (true, "50a65908a0e96ed155159c39f2adfa1a4b90e39f6172ce6f514ea1a64648c929"), looks := false }, kinds := [], alts := [], laidByText := true, laidKinds := [.data, .data, .data], laidTests := true, laidLooks := .later }
def SimplexSolveCardSaid : Prop := Claim7.holds Tryz.pinned (.plain (OpenSpec.ofChange simplexSolveSpec)) simplexSolveCard

/-- THE TIED CARD OF 'sosoptlaw13.SimplexOptimum'. -/
def simplexOptimumCard : Claim7 := { stood := { row := simplexOptimumRow, standIns := [], harness := (true, "50a65908a0e96ed155159c39f2adfa1a4b90e39f6172ce6f514ea1a64648c929"), looks := false }, kinds := [], alts := [], laidByText := true, laidKinds := [.data, .data, .data], laidTests := true, laidLooks := .later }
def SimplexOptimumCardSaid : Prop := Claim7.holds Tryz.pinned (.plain (OpenSpec.ofChange simplexOptimumSpec)) simplexOptimumCard

/-- THE TIED CARD OF 'sosoptlaw13.SimplexTampered'. -/
def simplexTamperedCard : Claim7 := { stood := { row := simplexTamperedRow, standIns := [], harness := (true, "50a65908a0e96ed155159c39f2adfa1a4b90e39f6172ce6f514ea1a64648c929"), looks := false }, kinds := [], alts := [], laidByText := true, laidKinds := [.data, .data, .data], laidTests := true, laidLooks := .later }
def SimplexTamperedCardSaid : Prop := Claim7.holds Tryz.pinned (.plain (OpenSpec.ofChange simplexTamperedSpec)) simplexTamperedCard

/-- THE SECOND FORM's CARD OF 'sosoptlaw13.SimplexScaling'. -/
def simplexScalingUptoCard : Claim7 := { stood := { row := simplexScalingUptoRow, standIns := [], harness := (true, "50a65908a0e96ed155159c39f2adfa1a4b90e39f6172ce6f514ea1a64648c929"), looks := false }, kinds := [], alts := [], laidByText := true, laidKinds := [.data, .data, .data], laidTests := true, laidLooks := .later }
def SimplexScalingUptoCardSaid : Prop := Claim7.holds Tryz.pinned (.plain (OpenSpec.upto simplexScalingSpec)) simplexScalingUptoCard

/-- THE SECOND FORM's CARD OF 'sosoptlaw13.SimplexSolve'. -/
def simplexSolveUptoCard : Claim7 := { stood := { row := simplexSolveUptoRow, standIns := [], harness := (true, "50a65908a0e96ed155159c39f2adfa1a4b90e39f6172ce6f514ea1a64648c929"), looks := false }, kinds := [], alts := [], laidByText := true, laidKinds := [.data, .data, .data], laidTests := true, laidLooks := .later }
def SimplexSolveUptoCardSaid : Prop := Claim7.holds Tryz.pinned (.plain (OpenSpec.upto simplexSolveSpec)) simplexSolveUptoCard

/-- THE SECOND FORM's CARD OF 'sosoptlaw13.SimplexOptimum'. -/
def simplexOptimumUptoCard : Claim7 := { stood := { row := simplexOptimumUptoRow, standIns := [], harness := (true, "50a65908a0e96ed155159c39f2adfa1a4b90e39f6172ce6f514ea1a64648c929"), looks := false }, kinds := [], alts := [], laidByText := true, laidKinds := [.data, .data, .data], laidTests := true, laidLooks := .later }
def SimplexOptimumUptoCardSaid : Prop := Claim7.holds Tryz.pinned (.plain (OpenSpec.upto simplexOptimumSpec)) simplexOptimumUptoCard

/-- THE SECOND FORM's CARD OF 'sosoptlaw13.SimplexTampered'. -/
def simplexTamperedUptoCard : Claim7 := { stood := { row := simplexTamperedUptoRow, standIns := [], harness := (true, "50a65908a0e96ed155159c39f2adfa1a4b90e39f6172ce6f514ea1a64648c929"), looks := false }, kinds := [], alts := [], laidByText := true, laidKinds := [.data, .data, .data], laidTests := true, laidLooks := .later }
def SimplexTamperedUptoCardSaid : Prop := Claim7.holds Tryz.pinned (.plain (OpenSpec.upto simplexTamperedSpec)) simplexTamperedUptoCard
end Rows
end Go.Proofs.YtepkmadmigkgmaaGreatDoor
