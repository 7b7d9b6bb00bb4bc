/-
  DERIVED. GIVEN WITH THE SEED: THE CARDS: each row of YtchgiggipimigaaGreatDoorRows.lean that lists a variable, with what it lists TIED to the program's text (the seventh form; the later family's looks); each row that meets fmt, with fmt's text TOLD by the authors' own Lean function (tested against real Go, not proved from fmt's source: count such statements apart). THE CARD IS WHAT COUNTS. Prove the row's statement (the work); the ties are given (YtchgiggipimigaaGreatDoorTie.lean); close each card by the builder's one call (the guide's Derived/Test/ToyasCard.lean, 'card_holds'). Laid BY PROGRAM, IN A SANDBOX (cutbox-door.mjs). By AI agents, Wed Nov 11 2026. No macro, syntax, notation, axiom, sorry.
-/
import Derived.Test.YtchgiggipimigaaGreatDoorRows
import GoSem.ClaimSeven
namespace Go.Proofs.YtchgiggipimigaaGreatDoor
namespace Rows

/-- THE TIED CARD OF 'catchmentlaw08.LeafOnce'. -/
def leafOnceCard : Claim7 := { stood := { row := leafOnceRow, standIns := [], harness := (true, "072ecf3a38c0cc777fe43f8cdb17c6522ba2772d927958019356b4a520889005"), looks := true }, kinds := [], alts := [], laidByText := true, laidKinds := [.data, .data, .data], laidTests := true, laidLooks := .later }
def LeafOnceCardSaid : Prop := Claim7.holds Tryz.pinned (.plain (OpenSpec.ofChange leafOnceSpec)) leafOnceCard

/-- THE TIED CARD OF 'catchmentlaw08.LeafRoom'. -/
def leafRoomCard : Claim7 := { stood := { row := leafRoomRow, standIns := [], harness := (true, "072ecf3a38c0cc777fe43f8cdb17c6522ba2772d927958019356b4a520889005"), looks := true }, kinds := [], alts := [], laidByText := true, laidKinds := [.data, .data, .data], laidTests := true, laidLooks := .later }
def LeafRoomCardSaid : Prop := Claim7.holds Tryz.pinned (.plain (OpenSpec.ofChange leafRoomSpec)) leafRoomCard

/-- THE TIED CARD OF 'catchmentlaw08.LeafTimes'. -/
def leafTimesCard : Claim7 := { stood := { row := leafTimesRow, standIns := [], harness := (true, "072ecf3a38c0cc777fe43f8cdb17c6522ba2772d927958019356b4a520889005"), looks := true }, kinds := [], alts := [], laidByText := true, laidKinds := [.data, .data, .data], laidTests := true, laidLooks := .later }
def LeafTimesCardSaid : Prop := Claim7.holds Tryz.pinned (.plain (OpenSpec.ofChange leafTimesSpec)) leafTimesCard

/-- THE TIED CARD OF 'catchmentlaw08.LeafPlays'. -/
def leafPlaysCard : Claim7 := { stood := { row := leafPlaysRow, standIns := [], harness := (true, "072ecf3a38c0cc777fe43f8cdb17c6522ba2772d927958019356b4a520889005"), looks := true }, kinds := [], alts := [], laidByText := true, laidKinds := [.data, .data, .data], laidTests := true, laidLooks := .later }
def LeafPlaysCardSaid : Prop := Claim7.holds Tryz.pinned (.plain (OpenSpec.ofChange leafPlaysSpec)) leafPlaysCard

/-- THE SECOND FORM's CARD OF 'catchmentlaw08.LeafOnce'. -/
def leafOnceUptoCard : Claim7 := { stood := { row := leafOnceUptoRow, standIns := [], harness := (true, "072ecf3a38c0cc777fe43f8cdb17c6522ba2772d927958019356b4a520889005"), looks := true }, kinds := [], alts := [], laidByText := true, laidKinds := [.data, .data, .data], laidTests := true, laidLooks := .later }
def LeafOnceUptoCardSaid : Prop := Claim7.holds Tryz.pinned (.plain (OpenSpec.upto leafOnceSpec)) leafOnceUptoCard

/-- THE SECOND FORM's CARD OF 'catchmentlaw08.LeafRoom'. -/
def leafRoomUptoCard : Claim7 := { stood := { row := leafRoomUptoRow, standIns := [], harness := (true, "072ecf3a38c0cc777fe43f8cdb17c6522ba2772d927958019356b4a520889005"), looks := true }, kinds := [], alts := [], laidByText := true, laidKinds := [.data, .data, .data], laidTests := true, laidLooks := .later }
def LeafRoomUptoCardSaid : Prop := Claim7.holds Tryz.pinned (.plain (OpenSpec.upto leafRoomSpec)) leafRoomUptoCard

/-- THE SECOND FORM's CARD OF 'catchmentlaw08.LeafTimes'. -/
def leafTimesUptoCard : Claim7 := { stood := { row := leafTimesUptoRow, standIns := [], harness := (true, "072ecf3a38c0cc777fe43f8cdb17c6522ba2772d927958019356b4a520889005"), looks := true }, kinds := [], alts := [], laidByText := true, laidKinds := [.data, .data, .data], laidTests := true, laidLooks := .later }
def LeafTimesUptoCardSaid : Prop := Claim7.holds Tryz.pinned (.plain (OpenSpec.upto leafTimesSpec)) leafTimesUptoCard

/-- THE SECOND FORM's CARD OF 'catchmentlaw08.LeafPlays'. -/
def leafPlaysUptoCard : Claim7 := { stood := { row := leafPlaysUptoRow, standIns := [], harness := (true, "072ecf3a38c0cc777fe43f8cdb17c6522ba2772d927958019356b4a520889005"), looks := true }, kinds := [], alts := [], laidByText := true, laidKinds := [.data, .data, .data], laidTests := true, laidLooks := .later }
def LeafPlaysUptoCardSaid : Prop := Claim7.holds Tryz.pinned (.plain (OpenSpec.upto leafPlaysSpec)) leafPlaysUptoCard
end Rows
end Go.Proofs.YtchgiggipimigaaGreatDoor
