/-
  DERIVED. GIVEN WITH THE SEED: THE CARDS: each row of YtffleadhhhpnlaaDoorRows.lean that lists a variable, with what it lists TIED to the program's text (the seventh form; the later family's looks); each row that meets fmt, with fmt's text TOLD by the authors' own Lean function (tested against real Go, not proved from fmt's source: count such statements apart). THE CARD IS WHAT COUNTS. Prove the row's statement (the work); the ties are given (YtffleadhhhpnlaaDoorTie.lean); close each card by the builder's one call (the guide's Derived/Test/ToyasCard.lean, 'card_holds'). Laid BY PROGRAM, IN A SANDBOX (cutbox-door.mjs). By AI agents, Wed Nov 11 2026. No macro, syntax, notation, axiom, sorry.
-/
import Derived.Test.YtffleadhhhpnlaaDoorRows
import GoSem.ClaimSeven
namespace Go.Proofs.YtffleadhhhpnlaaDoor
namespace Rows

/-- THE TIED CARD OF 'catchmentlaw06.StreamsStay'. -/
def streamsStayCard : Claim7 := { stood := { row := streamsStayRow, standIns := [], harness := (true, "122946d6871b258c2db6fccadaee4b9fdc94470e33031737dd6451d495abe923"), looks := true }, kinds := [], alts := [], laidByText := true, laidKinds := [.data, .data, .data], laidTests := true, laidLooks := .later }
def StreamsStayCardSaid : Prop := Claim7.holds Tryd.pinned (.plain (OpenSpec.ofChange streamsStaySpec)) streamsStayCard

/-- THE TIED CARD OF 'catchmentlaw06.StreamsRoom'. -/
def streamsRoomCard : Claim7 := { stood := { row := streamsRoomRow, standIns := [], harness := (true, "122946d6871b258c2db6fccadaee4b9fdc94470e33031737dd6451d495abe923"), looks := true }, kinds := [], alts := [], laidByText := true, laidKinds := [.data, .data, .data], laidTests := true, laidLooks := .later }
def StreamsRoomCardSaid : Prop := Claim7.holds Tryd.pinned (.plain (OpenSpec.ofChange streamsRoomSpec)) streamsRoomCard

/-- THE TIED CARD OF 'catchmentlaw06.StreamsPlays'. -/
def streamsPlaysCard : Claim7 := { stood := { row := streamsPlaysRow, standIns := [], harness := (true, "122946d6871b258c2db6fccadaee4b9fdc94470e33031737dd6451d495abe923"), looks := true }, kinds := [], alts := [], laidByText := true, laidKinds := [.data, .data, .data], laidTests := true, laidLooks := .later }
def StreamsPlaysCardSaid : Prop := Claim7.holds Tryd.pinned (.plain (OpenSpec.ofChange streamsPlaysSpec)) streamsPlaysCard

/-- THE SECOND FORM's CARD OF 'catchmentlaw06.StreamsStay'. -/
def streamsStayUptoCard : Claim7 := { stood := { row := streamsStayUptoRow, standIns := [], harness := (true, "122946d6871b258c2db6fccadaee4b9fdc94470e33031737dd6451d495abe923"), looks := true }, kinds := [], alts := [], laidByText := true, laidKinds := [.data, .data, .data], laidTests := true, laidLooks := .later }
def StreamsStayUptoCardSaid : Prop := Claim7.holds Tryd.pinned (.plain (OpenSpec.upto streamsStaySpec)) streamsStayUptoCard

/-- THE SECOND FORM's CARD OF 'catchmentlaw06.StreamsRoom'. -/
def streamsRoomUptoCard : Claim7 := { stood := { row := streamsRoomUptoRow, standIns := [], harness := (true, "122946d6871b258c2db6fccadaee4b9fdc94470e33031737dd6451d495abe923"), looks := true }, kinds := [], alts := [], laidByText := true, laidKinds := [.data, .data, .data], laidTests := true, laidLooks := .later }
def StreamsRoomUptoCardSaid : Prop := Claim7.holds Tryd.pinned (.plain (OpenSpec.upto streamsRoomSpec)) streamsRoomUptoCard

/-- THE SECOND FORM's CARD OF 'catchmentlaw06.StreamsPlays'. -/
def streamsPlaysUptoCard : Claim7 := { stood := { row := streamsPlaysUptoRow, standIns := [], harness := (true, "122946d6871b258c2db6fccadaee4b9fdc94470e33031737dd6451d495abe923"), looks := true }, kinds := [], alts := [], laidByText := true, laidKinds := [.data, .data, .data], laidTests := true, laidLooks := .later }
def StreamsPlaysUptoCardSaid : Prop := Claim7.holds Tryd.pinned (.plain (OpenSpec.upto streamsPlaysSpec)) streamsPlaysUptoCard
end Rows
end Go.Proofs.YtffleadhhhpnlaaDoor
