/-
  DERIVED. GIVEN WITH THE SEED: THE CARDS: each row of YtfajmfoofmienaaGreatDoorRows.lean that lists a variable, with what it lists TIED to the program's text (the seventh form; the later family's looks); each row that meets fmt, with fmt's text TOLD by the authors' own Lean function (tested against real Go, not proved from fmt's source: count such statements apart). THE CARD IS WHAT COUNTS. Prove the row's statement (the work); the ties are given (YtfajmfoofmienaaGreatDoorTie.lean); close each card by the builder's one call (the guide's Derived/Test/ToyasCard.lean, 'card_holds'). Laid BY PROGRAM, IN A SANDBOX (cutbox-door.mjs). By AI agents, Wed Nov 11 2026. No macro, syntax, notation, axiom, sorry.
-/
import Derived.Test.YtfajmfoofmienaaGreatDoorRows
import GoSem.ClaimSeven
namespace Go.Proofs.YtfajmfoofmienaaGreatDoor
namespace Rows

/-- THE TIED CARD OF 'sosoptlaw25.SdpSlacks'. -/
def sdpSlacksCard : Claim7 := { stood := { row := sdpSlacksRow, standIns := [], harness := (true, "cb054623145d01328a651aa8a1ad451e051f5534ce1add1ceff17b37815760bd"), looks := false }, kinds := [], alts := [], laidByText := true, laidKinds := [.data, .data, .data], laidTests := true, laidLooks := .later }
def SdpSlacksCardSaid : Prop := Claim7.holds Tryz.pinned (.plain (OpenSpec.ofChange sdpSlacksSpec)) sdpSlacksCard

/-- THE TIED CARD OF 'sosoptlaw25.SdpValues'. -/
def sdpValuesCard : Claim7 := { stood := { row := sdpValuesRow, standIns := [], harness := (true, "cb054623145d01328a651aa8a1ad451e051f5534ce1add1ceff17b37815760bd"), looks := false }, kinds := [], alts := [], laidByText := true, laidKinds := [.data, .data, .data], laidTests := true, laidLooks := .later }
def SdpValuesCardSaid : Prop := Claim7.holds Tryz.pinned (.plain (OpenSpec.ofChange sdpValuesSpec)) sdpValuesCard

/-- THE TIED CARD OF 'sosoptlaw25.SdpDuality'. -/
def sdpDualityCard : Claim7 := { stood := { row := sdpDualityRow, standIns := [], harness := (true, "cb054623145d01328a651aa8a1ad451e051f5534ce1add1ceff17b37815760bd"), looks := false }, kinds := [], alts := [], laidByText := true, laidKinds := [.data, .data, .data], laidTests := true, laidLooks := .later }
def SdpDualityCardSaid : Prop := Claim7.holds Tryz.pinned (.plain (OpenSpec.ofChange sdpDualitySpec)) sdpDualityCard

/-- THE SECOND FORM's CARD OF 'sosoptlaw25.SdpSlacks'. -/
def sdpSlacksUptoCard : Claim7 := { stood := { row := sdpSlacksUptoRow, standIns := [], harness := (true, "cb054623145d01328a651aa8a1ad451e051f5534ce1add1ceff17b37815760bd"), looks := false }, kinds := [], alts := [], laidByText := true, laidKinds := [.data, .data, .data], laidTests := true, laidLooks := .later }
def SdpSlacksUptoCardSaid : Prop := Claim7.holds Tryz.pinned (.plain (OpenSpec.upto sdpSlacksSpec)) sdpSlacksUptoCard

/-- THE SECOND FORM's CARD OF 'sosoptlaw25.SdpValues'. -/
def sdpValuesUptoCard : Claim7 := { stood := { row := sdpValuesUptoRow, standIns := [], harness := (true, "cb054623145d01328a651aa8a1ad451e051f5534ce1add1ceff17b37815760bd"), looks := false }, kinds := [], alts := [], laidByText := true, laidKinds := [.data, .data, .data], laidTests := true, laidLooks := .later }
def SdpValuesUptoCardSaid : Prop := Claim7.holds Tryz.pinned (.plain (OpenSpec.upto sdpValuesSpec)) sdpValuesUptoCard

/-- THE SECOND FORM's CARD OF 'sosoptlaw25.SdpDuality'. -/
def sdpDualityUptoCard : Claim7 := { stood := { row := sdpDualityUptoRow, standIns := [], harness := (true, "cb054623145d01328a651aa8a1ad451e051f5534ce1add1ceff17b37815760bd"), looks := false }, kinds := [], alts := [], laidByText := true, laidKinds := [.data, .data, .data], laidTests := true, laidLooks := .later }
def SdpDualityUptoCardSaid : Prop := Claim7.holds Tryz.pinned (.plain (OpenSpec.upto sdpDualitySpec)) sdpDualityUptoCard
end Rows
end Go.Proofs.YtfajmfoofmienaaGreatDoor
