/-
  DERIVED. GIVEN WITH THE SEED: THE CARDS: each row of YtokfihhdllmbmaaGreatDoorRows.lean that lists a variable, with what it lists TIED to the program's text (the seventh form; the later family's looks); each row that meets fmt, with fmt's text TOLD by the authors' own Lean function (tested against real Go, not proved from fmt's source: count such statements apart). THE CARD IS WHAT COUNTS. Prove the row's statement (the work); the ties are given (YtokfihhdllmbmaaGreatDoorTie.lean); close each card by the builder's one call (the guide's Derived/Test/ToyasCard.lean, 'card_holds'). Laid BY PROGRAM, IN A SANDBOX (cutbox-door.mjs). By AI agents, Wed Nov 11 2026. No macro, syntax, notation, axiom, sorry.
-/
import Derived.Test.YtokfihhdllmbmaaGreatDoorRows
import GoSem.ClaimSeven
namespace Go.Proofs.YtokfihhdllmbmaaGreatDoor
namespace Rows

/-- THE TIED CARD OF 'sosoptlaw25.SdpValid'. -/
def sdpValidCard : Claim7 := { stood := { row := sdpValidRow, standIns := [], harness := (true, "aa904b34f12c7a63780e24b60e94bab6e06cb7ec7a9daa2f649003de20a22735"), looks := false }, kinds := [], alts := [], laidByText := true, laidKinds := [.data, .data, .data], laidTests := true, laidLooks := .later }
def SdpValidCardSaid : Prop := Claim7.holds Tryz.pinned (.plain (OpenSpec.ofChange sdpValidSpec)) sdpValidCard

/-- THE TIED CARD OF 'sosoptlaw25.SdpSpoilt'. -/
def sdpSpoiltCard : Claim7 := { stood := { row := sdpSpoiltRow, standIns := [], harness := (true, "aa904b34f12c7a63780e24b60e94bab6e06cb7ec7a9daa2f649003de20a22735"), looks := false }, kinds := [], alts := [], laidByText := true, laidKinds := [.data, .data, .data], laidTests := true, laidLooks := .later }
def SdpSpoiltCardSaid : Prop := Claim7.holds Tryz.pinned (.plain (OpenSpec.ofChange sdpSpoiltSpec)) sdpSpoiltCard

/-- THE TIED CARD OF 'sosoptlaw25.SdpSlacks'. -/
def sdpSlacksCard : Claim7 := { stood := { row := sdpSlacksRow, standIns := [], harness := (true, "aa904b34f12c7a63780e24b60e94bab6e06cb7ec7a9daa2f649003de20a22735"), looks := false }, kinds := [], alts := [], laidByText := true, laidKinds := [.data, .data, .data], laidTests := true, laidLooks := .later }
def SdpSlacksCardSaid : Prop := Claim7.holds Tryz.pinned (.plain (OpenSpec.ofChange sdpSlacksSpec)) sdpSlacksCard

/-- THE TIED CARD OF 'sosoptlaw25.SdpSelects'. -/
def sdpSelectsCard : Claim7 := { stood := { row := sdpSelectsRow, standIns := [], harness := (true, "aa904b34f12c7a63780e24b60e94bab6e06cb7ec7a9daa2f649003de20a22735"), looks := false }, kinds := [], alts := [], laidByText := true, laidKinds := [.data, .data, .data], laidTests := true, laidLooks := .later }
def SdpSelectsCardSaid : Prop := Claim7.holds Tryz.pinned (.plain (OpenSpec.ofChange sdpSelectsSpec)) sdpSelectsCard

/-- THE TIED CARD OF 'sosoptlaw25.SdpPoints'. -/
def sdpPointsCard : Claim7 := { stood := { row := sdpPointsRow, standIns := [], harness := (true, "aa904b34f12c7a63780e24b60e94bab6e06cb7ec7a9daa2f649003de20a22735"), looks := false }, kinds := [], alts := [], laidByText := true, laidKinds := [.data, .data, .data], laidTests := true, laidLooks := .later }
def SdpPointsCardSaid : Prop := Claim7.holds Tryz.pinned (.plain (OpenSpec.ofChange sdpPointsSpec)) sdpPointsCard

/-- THE TIED CARD OF 'sosoptlaw25.SdpValues'. -/
def sdpValuesCard : Claim7 := { stood := { row := sdpValuesRow, standIns := [], harness := (true, "aa904b34f12c7a63780e24b60e94bab6e06cb7ec7a9daa2f649003de20a22735"), looks := false }, kinds := [], alts := [], laidByText := true, laidKinds := [.data, .data, .data], laidTests := true, laidLooks := .later }
def SdpValuesCardSaid : Prop := Claim7.holds Tryz.pinned (.plain (OpenSpec.ofChange sdpValuesSpec)) sdpValuesCard

/-- THE TIED CARD OF 'sosoptlaw25.SdpDuality'. -/
def sdpDualityCard : Claim7 := { stood := { row := sdpDualityRow, standIns := [], harness := (true, "aa904b34f12c7a63780e24b60e94bab6e06cb7ec7a9daa2f649003de20a22735"), looks := false }, kinds := [], alts := [], laidByText := true, laidKinds := [.data, .data, .data], laidTests := true, laidLooks := .later }
def SdpDualityCardSaid : Prop := Claim7.holds Tryz.pinned (.plain (OpenSpec.ofChange sdpDualitySpec)) sdpDualityCard

/-- THE TIED CARD OF 'sosoptlaw25.SdpIndependent'. -/
def sdpIndependentCard : Claim7 := { stood := { row := sdpIndependentRow, standIns := [], harness := (true, "aa904b34f12c7a63780e24b60e94bab6e06cb7ec7a9daa2f649003de20a22735"), looks := false }, kinds := [], alts := [], laidByText := true, laidKinds := [.data, .data, .data], laidTests := true, laidLooks := .later }
def SdpIndependentCardSaid : Prop := Claim7.holds Tryz.pinned (.plain (OpenSpec.ofChange sdpIndependentSpec)) sdpIndependentCard

/-- THE TIED CARD OF 'sosoptlaw25.SdpEliminates'. -/
def sdpEliminatesCard : Claim7 := { stood := { row := sdpEliminatesRow, standIns := [], harness := (true, "aa904b34f12c7a63780e24b60e94bab6e06cb7ec7a9daa2f649003de20a22735"), looks := false }, kinds := [], alts := [], laidByText := true, laidKinds := [.data, .data, .data], laidTests := true, laidLooks := .later }
def SdpEliminatesCardSaid : Prop := Claim7.holds Tryz.pinned (.plain (OpenSpec.ofChange sdpEliminatesSpec)) sdpEliminatesCard

/-- THE TIED CARD OF 'sosoptlaw25.SdpRestores'. -/
def sdpRestoresCard : Claim7 := { stood := { row := sdpRestoresRow, standIns := [], harness := (true, "aa904b34f12c7a63780e24b60e94bab6e06cb7ec7a9daa2f649003de20a22735"), looks := false }, kinds := [], alts := [], laidByText := true, laidKinds := [.data, .data, .data], laidTests := true, laidLooks := .later }
def SdpRestoresCardSaid : Prop := Claim7.holds Tryz.pinned (.plain (OpenSpec.ofChange sdpRestoresSpec)) sdpRestoresCard

/-- THE SECOND FORM's CARD OF 'sosoptlaw25.SdpValid'. -/
def sdpValidUptoCard : Claim7 := { stood := { row := sdpValidUptoRow, standIns := [], harness := (true, "aa904b34f12c7a63780e24b60e94bab6e06cb7ec7a9daa2f649003de20a22735"), looks := false }, kinds := [], alts := [], laidByText := true, laidKinds := [.data, .data, .data], laidTests := true, laidLooks := .later }
def SdpValidUptoCardSaid : Prop := Claim7.holds Tryz.pinned (.plain (OpenSpec.upto sdpValidSpec)) sdpValidUptoCard

/-- THE SECOND FORM's CARD OF 'sosoptlaw25.SdpSpoilt'. -/
def sdpSpoiltUptoCard : Claim7 := { stood := { row := sdpSpoiltUptoRow, standIns := [], harness := (true, "aa904b34f12c7a63780e24b60e94bab6e06cb7ec7a9daa2f649003de20a22735"), looks := false }, kinds := [], alts := [], laidByText := true, laidKinds := [.data, .data, .data], laidTests := true, laidLooks := .later }
def SdpSpoiltUptoCardSaid : Prop := Claim7.holds Tryz.pinned (.plain (OpenSpec.upto sdpSpoiltSpec)) sdpSpoiltUptoCard

/-- THE SECOND FORM's CARD OF 'sosoptlaw25.SdpSlacks'. -/
def sdpSlacksUptoCard : Claim7 := { stood := { row := sdpSlacksUptoRow, standIns := [], harness := (true, "aa904b34f12c7a63780e24b60e94bab6e06cb7ec7a9daa2f649003de20a22735"), looks := false }, kinds := [], alts := [], laidByText := true, laidKinds := [.data, .data, .data], laidTests := true, laidLooks := .later }
def SdpSlacksUptoCardSaid : Prop := Claim7.holds Tryz.pinned (.plain (OpenSpec.upto sdpSlacksSpec)) sdpSlacksUptoCard

/-- THE SECOND FORM's CARD OF 'sosoptlaw25.SdpSelects'. -/
def sdpSelectsUptoCard : Claim7 := { stood := { row := sdpSelectsUptoRow, standIns := [], harness := (true, "aa904b34f12c7a63780e24b60e94bab6e06cb7ec7a9daa2f649003de20a22735"), looks := false }, kinds := [], alts := [], laidByText := true, laidKinds := [.data, .data, .data], laidTests := true, laidLooks := .later }
def SdpSelectsUptoCardSaid : Prop := Claim7.holds Tryz.pinned (.plain (OpenSpec.upto sdpSelectsSpec)) sdpSelectsUptoCard

/-- THE SECOND FORM's CARD OF 'sosoptlaw25.SdpPoints'. -/
def sdpPointsUptoCard : Claim7 := { stood := { row := sdpPointsUptoRow, standIns := [], harness := (true, "aa904b34f12c7a63780e24b60e94bab6e06cb7ec7a9daa2f649003de20a22735"), looks := false }, kinds := [], alts := [], laidByText := true, laidKinds := [.data, .data, .data], laidTests := true, laidLooks := .later }
def SdpPointsUptoCardSaid : Prop := Claim7.holds Tryz.pinned (.plain (OpenSpec.upto sdpPointsSpec)) sdpPointsUptoCard

/-- THE SECOND FORM's CARD OF 'sosoptlaw25.SdpValues'. -/
def sdpValuesUptoCard : Claim7 := { stood := { row := sdpValuesUptoRow, standIns := [], harness := (true, "aa904b34f12c7a63780e24b60e94bab6e06cb7ec7a9daa2f649003de20a22735"), looks := false }, kinds := [], alts := [], laidByText := true, laidKinds := [.data, .data, .data], laidTests := true, laidLooks := .later }
def SdpValuesUptoCardSaid : Prop := Claim7.holds Tryz.pinned (.plain (OpenSpec.upto sdpValuesSpec)) sdpValuesUptoCard

/-- THE SECOND FORM's CARD OF 'sosoptlaw25.SdpDuality'. -/
def sdpDualityUptoCard : Claim7 := { stood := { row := sdpDualityUptoRow, standIns := [], harness := (true, "aa904b34f12c7a63780e24b60e94bab6e06cb7ec7a9daa2f649003de20a22735"), looks := false }, kinds := [], alts := [], laidByText := true, laidKinds := [.data, .data, .data], laidTests := true, laidLooks := .later }
def SdpDualityUptoCardSaid : Prop := Claim7.holds Tryz.pinned (.plain (OpenSpec.upto sdpDualitySpec)) sdpDualityUptoCard

/-- THE SECOND FORM's CARD OF 'sosoptlaw25.SdpIndependent'. -/
def sdpIndependentUptoCard : Claim7 := { stood := { row := sdpIndependentUptoRow, standIns := [], harness := (true, "aa904b34f12c7a63780e24b60e94bab6e06cb7ec7a9daa2f649003de20a22735"), looks := false }, kinds := [], alts := [], laidByText := true, laidKinds := [.data, .data, .data], laidTests := true, laidLooks := .later }
def SdpIndependentUptoCardSaid : Prop := Claim7.holds Tryz.pinned (.plain (OpenSpec.upto sdpIndependentSpec)) sdpIndependentUptoCard

/-- THE SECOND FORM's CARD OF 'sosoptlaw25.SdpEliminates'. -/
def sdpEliminatesUptoCard : Claim7 := { stood := { row := sdpEliminatesUptoRow, standIns := [], harness := (true, "aa904b34f12c7a63780e24b60e94bab6e06cb7ec7a9daa2f649003de20a22735"), looks := false }, kinds := [], alts := [], laidByText := true, laidKinds := [.data, .data, .data], laidTests := true, laidLooks := .later }
def SdpEliminatesUptoCardSaid : Prop := Claim7.holds Tryz.pinned (.plain (OpenSpec.upto sdpEliminatesSpec)) sdpEliminatesUptoCard

/-- THE SECOND FORM's CARD OF 'sosoptlaw25.SdpRestores'. -/
def sdpRestoresUptoCard : Claim7 := { stood := { row := sdpRestoresUptoRow, standIns := [], harness := (true, "aa904b34f12c7a63780e24b60e94bab6e06cb7ec7a9daa2f649003de20a22735"), looks := false }, kinds := [], alts := [], laidByText := true, laidKinds := [.data, .data, .data], laidTests := true, laidLooks := .later }
def SdpRestoresUptoCardSaid : Prop := Claim7.holds Tryz.pinned (.plain (OpenSpec.upto sdpRestoresSpec)) sdpRestoresUptoCard
end Rows
end Go.Proofs.YtokfihhdllmbmaaGreatDoor
