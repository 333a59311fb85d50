/-
  DERIVED. GIVEN WITH THE SEED: THE CARDS: each row of YtlmbghgklnmlkaaGreatDoorRows.lean that lists a variable, with what it lists TIED to the program's text (the seventh form; the later family's looks); each row that meets fmt, with fmt's text TOLD by the authors' own Lean function (tested against real Go, not proved from fmt's source: count such statements apart). THE CARD IS WHAT COUNTS. Prove the row's statement (the work); the ties are given (YtlmbghgklnmlkaaGreatDoorTie.lean); close each card by the builder's one call (the guide's Derived/Test/ToyasCard.lean, 'card_holds'). Laid BY PROGRAM, IN A SANDBOX (cutbox-door.mjs). By AI agents, Wed Nov 11 2026. No macro, syntax, notation, axiom, sorry.
-/
import Derived.Test.YtlmbghgklnmlkaaGreatDoorRows
import GoSem.ClaimSeven
namespace Go.Proofs.YtlmbghgklnmlkaaGreatDoor
namespace Rows

/-- THE TIED CARD OF 'sosoptlaw13.SimplexRaw'. -/
def simplexRawCard : Claim7 := { stood := { row := simplexRawRow, standIns := [], harness := (true, "9e5c0f00c4bd6ea61ae402f0a64ff71be72402011ce920bfc6b7613a822b02c4"), looks := false }, kinds := [], alts := [], laidByText := true, laidKinds := [.data, .data, .data], laidTests := true, laidLooks := .later }
def SimplexRawCardSaid : Prop := Claim7.holds Tryz.pinned (.plain (OpenSpec.ofChange simplexRawSpec)) simplexRawCard

/-- THE TIED CARD OF 'sosoptlaw13.SimplexCheck'. -/
def simplexCheckCard : Claim7 := { stood := { row := simplexCheckRow, standIns := [], harness := (true, "9e5c0f00c4bd6ea61ae402f0a64ff71be72402011ce920bfc6b7613a822b02c4"), looks := false }, kinds := [], alts := [], laidByText := true, laidKinds := [.data, .data, .data], laidTests := true, laidLooks := .later }
def SimplexCheckCardSaid : Prop := Claim7.holds Tryz.pinned (.plain (OpenSpec.ofChange simplexCheckSpec)) simplexCheckCard

/-- THE TIED CARD OF 'sosoptlaw13.SimplexBound'. -/
def simplexBoundCard : Claim7 := { stood := { row := simplexBoundRow, standIns := [], harness := (true, "9e5c0f00c4bd6ea61ae402f0a64ff71be72402011ce920bfc6b7613a822b02c4"), looks := false }, kinds := [], alts := [], laidByText := true, laidKinds := [.data, .data, .data], laidTests := true, laidLooks := .later }
def SimplexBoundCardSaid : Prop := Claim7.holds Tryz.pinned (.plain (OpenSpec.ofChange simplexBoundSpec)) simplexBoundCard

/-- THE SECOND FORM's CARD OF 'sosoptlaw13.SimplexRaw'. -/
def simplexRawUptoCard : Claim7 := { stood := { row := simplexRawUptoRow, standIns := [], harness := (true, "9e5c0f00c4bd6ea61ae402f0a64ff71be72402011ce920bfc6b7613a822b02c4"), looks := false }, kinds := [], alts := [], laidByText := true, laidKinds := [.data, .data, .data], laidTests := true, laidLooks := .later }
def SimplexRawUptoCardSaid : Prop := Claim7.holds Tryz.pinned (.plain (OpenSpec.upto simplexRawSpec)) simplexRawUptoCard

/-- THE SECOND FORM's CARD OF 'sosoptlaw13.SimplexCheck'. -/
def simplexCheckUptoCard : Claim7 := { stood := { row := simplexCheckUptoRow, standIns := [], harness := (true, "9e5c0f00c4bd6ea61ae402f0a64ff71be72402011ce920bfc6b7613a822b02c4"), looks := false }, kinds := [], alts := [], laidByText := true, laidKinds := [.data, .data, .data], laidTests := true, laidLooks := .later }
def SimplexCheckUptoCardSaid : Prop := Claim7.holds Tryz.pinned (.plain (OpenSpec.upto simplexCheckSpec)) simplexCheckUptoCard

/-- THE SECOND FORM's CARD OF 'sosoptlaw13.SimplexBound'. -/
def simplexBoundUptoCard : Claim7 := { stood := { row := simplexBoundUptoRow, standIns := [], harness := (true, "9e5c0f00c4bd6ea61ae402f0a64ff71be72402011ce920bfc6b7613a822b02c4"), looks := false }, kinds := [], alts := [], laidByText := true, laidKinds := [.data, .data, .data], laidTests := true, laidLooks := .later }
def SimplexBoundUptoCardSaid : Prop := Claim7.holds Tryz.pinned (.plain (OpenSpec.upto simplexBoundSpec)) simplexBoundUptoCard
end Rows
end Go.Proofs.YtlmbghgklnmlkaaGreatDoor
