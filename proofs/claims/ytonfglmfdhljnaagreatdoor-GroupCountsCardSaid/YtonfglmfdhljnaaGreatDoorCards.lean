/-
  DERIVED. GIVEN WITH THE SEED: THE CARDS: each row of YtonfglmfdhljnaaGreatDoorRows.lean that lists a variable, with what it lists TIED to the program's text (the seventh form; the later family's looks); each row that meets fmt, with fmt's text TOLD by the authors' own Lean function (tested against real Go, not proved from fmt's source: count such statements apart). THE CARD IS WHAT COUNTS. Prove the row's statement (the work); the ties are given (YtonfglmfdhljnaaGreatDoorTie.lean); close each card by the builder's one call (the guide's Derived/Test/ToyasCard.lean, 'card_holds'). Laid BY PROGRAM, IN A SANDBOX (cutbox-door.mjs). By AI agents, Wed Nov 11 2026. No macro, syntax, notation, axiom, sorry.
-/
import Derived.Test.YtonfglmfdhljnaaGreatDoorRows
import GoSem.ClaimSeven
namespace Go.Proofs.YtonfglmfdhljnaaGreatDoor
namespace Rows

/-- THE TIED CARD OF 'catchmentlaw18.GroupColumns'. -/
def groupColumnsCard : Claim7 := { stood := { row := groupColumnsRow, standIns := [], harness := (true, "20f4e7a092c9093c5597cc9a57d59fa02ae3a738470096bc6da9f4906038d423"), looks := false }, kinds := [], alts := [], laidByText := true, laidKinds := [.data, .data, .data], laidTests := true, laidLooks := .later }
def GroupColumnsCardSaid : Prop := Claim7.holds Tryz.pinned (.plain (OpenSpec.ofChange groupColumnsSpec)) groupColumnsCard

/-- THE TIED CARD OF 'catchmentlaw18.GroupParts'. -/
def groupPartsCard : Claim7 := { stood := { row := groupPartsRow, standIns := [], harness := (true, "20f4e7a092c9093c5597cc9a57d59fa02ae3a738470096bc6da9f4906038d423"), looks := false }, kinds := [], alts := [], laidByText := true, laidKinds := [.data, .data, .data], laidTests := true, laidLooks := .later }
def GroupPartsCardSaid : Prop := Claim7.holds Tryz.pinned (.plain (OpenSpec.ofChange groupPartsSpec)) groupPartsCard

/-- THE TIED CARD OF 'catchmentlaw18.GroupWholes'. -/
def groupWholesCard : Claim7 := { stood := { row := groupWholesRow, standIns := [], harness := (true, "20f4e7a092c9093c5597cc9a57d59fa02ae3a738470096bc6da9f4906038d423"), looks := false }, kinds := [], alts := [], laidByText := true, laidKinds := [.data, .data, .data], laidTests := true, laidLooks := .later }
def GroupWholesCardSaid : Prop := Claim7.holds Tryz.pinned (.plain (OpenSpec.ofChange groupWholesSpec)) groupWholesCard

/-- THE TIED CARD OF 'catchmentlaw18.GroupCuts'. -/
def groupCutsCard : Claim7 := { stood := { row := groupCutsRow, standIns := [], harness := (true, "20f4e7a092c9093c5597cc9a57d59fa02ae3a738470096bc6da9f4906038d423"), looks := false }, kinds := [], alts := [], laidByText := true, laidKinds := [.data, .data, .data], laidTests := true, laidLooks := .later }
def GroupCutsCardSaid : Prop := Claim7.holds Tryz.pinned (.plain (OpenSpec.ofChange groupCutsSpec)) groupCutsCard

/-- THE TIED CARD OF 'catchmentlaw18.GroupCounts'. -/
def groupCountsCard : Claim7 := { stood := { row := groupCountsRow, standIns := [], harness := (true, "20f4e7a092c9093c5597cc9a57d59fa02ae3a738470096bc6da9f4906038d423"), looks := false }, kinds := [], alts := [], laidByText := true, laidKinds := [.data, .data, .data], laidTests := true, laidLooks := .later }
def GroupCountsCardSaid : Prop := Claim7.holds Tryz.pinned (.plain (OpenSpec.ofChange groupCountsSpec)) groupCountsCard

/-- THE TIED CARD OF 'catchmentlaw18.GroupTurned'. -/
def groupTurnedCard : Claim7 := { stood := { row := groupTurnedRow, standIns := [], harness := (true, "20f4e7a092c9093c5597cc9a57d59fa02ae3a738470096bc6da9f4906038d423"), looks := false }, kinds := [], alts := [], laidByText := true, laidKinds := [.data, .data, .data], laidTests := true, laidLooks := .later }
def GroupTurnedCardSaid : Prop := Claim7.holds Tryz.pinned (.plain (OpenSpec.ofChange groupTurnedSpec)) groupTurnedCard

/-- THE SECOND FORM's CARD OF 'catchmentlaw18.GroupColumns'. -/
def groupColumnsUptoCard : Claim7 := { stood := { row := groupColumnsUptoRow, standIns := [], harness := (true, "20f4e7a092c9093c5597cc9a57d59fa02ae3a738470096bc6da9f4906038d423"), looks := false }, kinds := [], alts := [], laidByText := true, laidKinds := [.data, .data, .data], laidTests := true, laidLooks := .later }
def GroupColumnsUptoCardSaid : Prop := Claim7.holds Tryz.pinned (.plain (OpenSpec.upto groupColumnsSpec)) groupColumnsUptoCard

/-- THE SECOND FORM's CARD OF 'catchmentlaw18.GroupParts'. -/
def groupPartsUptoCard : Claim7 := { stood := { row := groupPartsUptoRow, standIns := [], harness := (true, "20f4e7a092c9093c5597cc9a57d59fa02ae3a738470096bc6da9f4906038d423"), looks := false }, kinds := [], alts := [], laidByText := true, laidKinds := [.data, .data, .data], laidTests := true, laidLooks := .later }
def GroupPartsUptoCardSaid : Prop := Claim7.holds Tryz.pinned (.plain (OpenSpec.upto groupPartsSpec)) groupPartsUptoCard

/-- THE SECOND FORM's CARD OF 'catchmentlaw18.GroupWholes'. -/
def groupWholesUptoCard : Claim7 := { stood := { row := groupWholesUptoRow, standIns := [], harness := (true, "20f4e7a092c9093c5597cc9a57d59fa02ae3a738470096bc6da9f4906038d423"), looks := false }, kinds := [], alts := [], laidByText := true, laidKinds := [.data, .data, .data], laidTests := true, laidLooks := .later }
def GroupWholesUptoCardSaid : Prop := Claim7.holds Tryz.pinned (.plain (OpenSpec.upto groupWholesSpec)) groupWholesUptoCard

/-- THE SECOND FORM's CARD OF 'catchmentlaw18.GroupCuts'. -/
def groupCutsUptoCard : Claim7 := { stood := { row := groupCutsUptoRow, standIns := [], harness := (true, "20f4e7a092c9093c5597cc9a57d59fa02ae3a738470096bc6da9f4906038d423"), looks := false }, kinds := [], alts := [], laidByText := true, laidKinds := [.data, .data, .data], laidTests := true, laidLooks := .later }
def GroupCutsUptoCardSaid : Prop := Claim7.holds Tryz.pinned (.plain (OpenSpec.upto groupCutsSpec)) groupCutsUptoCard

/-- THE SECOND FORM's CARD OF 'catchmentlaw18.GroupCounts'. -/
def groupCountsUptoCard : Claim7 := { stood := { row := groupCountsUptoRow, standIns := [], harness := (true, "20f4e7a092c9093c5597cc9a57d59fa02ae3a738470096bc6da9f4906038d423"), looks := false }, kinds := [], alts := [], laidByText := true, laidKinds := [.data, .data, .data], laidTests := true, laidLooks := .later }
def GroupCountsUptoCardSaid : Prop := Claim7.holds Tryz.pinned (.plain (OpenSpec.upto groupCountsSpec)) groupCountsUptoCard

/-- THE SECOND FORM's CARD OF 'catchmentlaw18.GroupTurned'. -/
def groupTurnedUptoCard : Claim7 := { stood := { row := groupTurnedUptoRow, standIns := [], harness := (true, "20f4e7a092c9093c5597cc9a57d59fa02ae3a738470096bc6da9f4906038d423"), looks := false }, kinds := [], alts := [], laidByText := true, laidKinds := [.data, .data, .data], laidTests := true, laidLooks := .later }
def GroupTurnedUptoCardSaid : Prop := Claim7.holds Tryz.pinned (.plain (OpenSpec.upto groupTurnedSpec)) groupTurnedUptoCard
end Rows
end Go.Proofs.YtonfglmfdhljnaaGreatDoor
