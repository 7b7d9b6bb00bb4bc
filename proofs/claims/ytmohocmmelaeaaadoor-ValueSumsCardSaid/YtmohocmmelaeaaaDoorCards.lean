/-
  DERIVED. GIVEN WITH THE SEED: THE CARDS: each row of YtmohocmmelaeaaaDoorRows.lean that lists a variable, with what it lists TIED to the program's text (the seventh form; the later family's looks); each row that meets fmt, with fmt's text TOLD by the authors' own Lean function (tested against real Go, not proved from fmt's source: count such statements apart). THE CARD IS WHAT COUNTS. Prove the row's statement (the work); the ties are given (YtmohocmmelaeaaaDoorTie.lean); close each card by the builder's one call (the guide's Derived/Test/ToyasCard.lean, 'card_holds'). Laid BY PROGRAM, IN A SANDBOX (cutbox-door.mjs). By AI agents, Wed Nov 11 2026. No macro, syntax, notation, axiom, sorry.
-/
import Derived.Test.YtmohocmmelaeaaaDoorRows
import GoSem.ClaimSeven
namespace Go.Proofs.YtmohocmmelaeaaaDoor
namespace Rows

/-- THE TIED CARD OF 'catchmentlaw01.ValueValid'. -/
def valueValidCard : Claim7 := { stood := { row := valueValidRow, standIns := [], harness := (true, "b09e03115662f4c406f09845a5d245a0bb1dea2444c0faa156b0e0263f91fc90"), looks := false }, kinds := [], alts := [], laidByText := true, laidKinds := [.data, .data, .data, .data, .pinned], laidTests := true, laidLooks := .later }
def ValueValidCardSaid : Prop := Claim7.holds Tryd.pinned (.plain (OpenSpec.ofChange valueValidSpec)) valueValidCard

/-- THE TIED CARD OF 'catchmentlaw01.ValueOrder'. -/
def valueOrderCard : Claim7 := { stood := { row := valueOrderRow, standIns := [], harness := (true, "b09e03115662f4c406f09845a5d245a0bb1dea2444c0faa156b0e0263f91fc90"), looks := false }, kinds := [], alts := [], laidByText := true, laidKinds := [.data, .data, .data, .data, .pinned], laidTests := true, laidLooks := .later }
def ValueOrderCardSaid : Prop := Claim7.holds Tryd.pinned (.plain (OpenSpec.ofChange valueOrderSpec)) valueOrderCard

/-- THE TIED CARD OF 'catchmentlaw01.ValueChain'. -/
def valueChainCard : Claim7 := { stood := { row := valueChainRow, standIns := [], harness := (true, "b09e03115662f4c406f09845a5d245a0bb1dea2444c0faa156b0e0263f91fc90"), looks := false }, kinds := [], alts := [], laidByText := true, laidKinds := [.data, .data, .data, .data, .pinned], laidTests := true, laidLooks := .later }
def ValueChainCardSaid : Prop := Claim7.holds Tryd.pinned (.plain (OpenSpec.ofChange valueChainSpec)) valueChainCard

/-- THE TIED CARD OF 'catchmentlaw01.ValueAdds'. -/
def valueAddsCard : Claim7 := { stood := { row := valueAddsRow, standIns := [], harness := (true, "b09e03115662f4c406f09845a5d245a0bb1dea2444c0faa156b0e0263f91fc90"), looks := false }, kinds := [], alts := [], laidByText := true, laidKinds := [.data, .data, .data, .data, .pinned], laidTests := true, laidLooks := .later }
def ValueAddsCardSaid : Prop := Claim7.holds Tryd.pinned (.plain (OpenSpec.ofChange valueAddsSpec)) valueAddsCard

/-- THE TIED CARD OF 'catchmentlaw01.ValueSums'. -/
def valueSumsCard : Claim7 := { stood := { row := valueSumsRow, standIns := [], harness := (true, "b09e03115662f4c406f09845a5d245a0bb1dea2444c0faa156b0e0263f91fc90"), looks := false }, kinds := [], alts := [], laidByText := true, laidKinds := [.data, .data, .data, .data, .pinned], laidTests := true, laidLooks := .later }
def ValueSumsCardSaid : Prop := Claim7.holds Tryd.pinned (.plain (OpenSpec.ofChange valueSumsSpec)) valueSumsCard

/-- THE TIED CARD OF 'catchmentlaw01.ValueBuckets'. -/
def valueBucketsCard : Claim7 := { stood := { row := valueBucketsRow, standIns := [], harness := (true, "b09e03115662f4c406f09845a5d245a0bb1dea2444c0faa156b0e0263f91fc90"), looks := false }, kinds := [], alts := [], laidByText := true, laidKinds := [.data, .data, .data, .data, .pinned], laidTests := true, laidLooks := .later }
def ValueBucketsCardSaid : Prop := Claim7.holds Tryd.pinned (.plain (OpenSpec.ofChange valueBucketsSpec)) valueBucketsCard

/-- THE TIED CARD OF 'catchmentlaw01.ValueMakes'. -/
def valueMakesCard : Claim7 := { stood := { row := valueMakesRow, standIns := [], harness := (true, "b09e03115662f4c406f09845a5d245a0bb1dea2444c0faa156b0e0263f91fc90"), looks := false }, kinds := [], alts := [], laidByText := true, laidKinds := [.data, .data, .data, .data, .pinned], laidTests := true, laidLooks := .later }
def ValueMakesCardSaid : Prop := Claim7.holds Tryd.pinned (.plain (OpenSpec.ofChange valueMakesSpec)) valueMakesCard

/-- THE TIED CARD OF 'catchmentlaw01.ValueHow'. -/
def valueHowCard : Claim7 := { stood := { row := valueHowRow, standIns := [], harness := (true, "b09e03115662f4c406f09845a5d245a0bb1dea2444c0faa156b0e0263f91fc90"), looks := false }, kinds := [], alts := [], laidByText := true, laidKinds := [.data, .data, .data, .data, .pinned], laidTests := true, laidLooks := .later }
def ValueHowCardSaid : Prop := Claim7.holds Tryd.pinned (.plain (OpenSpec.ofChange valueHowSpec)) valueHowCard

/-- THE TIED CARD OF 'catchmentlaw01.ValueTells'. -/
def valueTellsCard : Claim7 := { stood := { row := valueTellsRow, standIns := [], harness := (true, "b09e03115662f4c406f09845a5d245a0bb1dea2444c0faa156b0e0263f91fc90"), looks := false }, kinds := [], alts := [], laidByText := true, laidKinds := [.data, .data, .data, .data, .pinned], laidTests := true, laidLooks := .later }
def ValueTellsCardSaid : Prop := Claim7.holds Tryd.pinned (.plain (OpenSpec.ofChange valueTellsSpec)) valueTellsCard

/-- THE TIED CARD OF 'catchmentlaw01.ValueNoughts'. -/
def valueNoughtsCard : Claim7 := { stood := { row := valueNoughtsRow, standIns := [], harness := (true, "b09e03115662f4c406f09845a5d245a0bb1dea2444c0faa156b0e0263f91fc90"), looks := false }, kinds := [], alts := [], laidByText := true, laidKinds := [.data, .data, .data, .data, .pinned], laidTests := true, laidLooks := .later }
def ValueNoughtsCardSaid : Prop := Claim7.holds Tryd.pinned (.plain (OpenSpec.ofChange valueNoughtsSpec)) valueNoughtsCard

/-- THE SECOND FORM's CARD OF 'catchmentlaw01.ValueValid'. -/
def valueValidUptoCard : Claim7 := { stood := { row := valueValidUptoRow, standIns := [], harness := (true, "b09e03115662f4c406f09845a5d245a0bb1dea2444c0faa156b0e0263f91fc90"), looks := false }, kinds := [], alts := [], laidByText := true, laidKinds := [.data, .data, .data, .data, .pinned], laidTests := true, laidLooks := .later }
def ValueValidUptoCardSaid : Prop := Claim7.holds Tryd.pinned (.plain (OpenSpec.upto valueValidSpec)) valueValidUptoCard

/-- THE SECOND FORM's CARD OF 'catchmentlaw01.ValueOrder'. -/
def valueOrderUptoCard : Claim7 := { stood := { row := valueOrderUptoRow, standIns := [], harness := (true, "b09e03115662f4c406f09845a5d245a0bb1dea2444c0faa156b0e0263f91fc90"), looks := false }, kinds := [], alts := [], laidByText := true, laidKinds := [.data, .data, .data, .data, .pinned], laidTests := true, laidLooks := .later }
def ValueOrderUptoCardSaid : Prop := Claim7.holds Tryd.pinned (.plain (OpenSpec.upto valueOrderSpec)) valueOrderUptoCard

/-- THE SECOND FORM's CARD OF 'catchmentlaw01.ValueChain'. -/
def valueChainUptoCard : Claim7 := { stood := { row := valueChainUptoRow, standIns := [], harness := (true, "b09e03115662f4c406f09845a5d245a0bb1dea2444c0faa156b0e0263f91fc90"), looks := false }, kinds := [], alts := [], laidByText := true, laidKinds := [.data, .data, .data, .data, .pinned], laidTests := true, laidLooks := .later }
def ValueChainUptoCardSaid : Prop := Claim7.holds Tryd.pinned (.plain (OpenSpec.upto valueChainSpec)) valueChainUptoCard

/-- THE SECOND FORM's CARD OF 'catchmentlaw01.ValueAdds'. -/
def valueAddsUptoCard : Claim7 := { stood := { row := valueAddsUptoRow, standIns := [], harness := (true, "b09e03115662f4c406f09845a5d245a0bb1dea2444c0faa156b0e0263f91fc90"), looks := false }, kinds := [], alts := [], laidByText := true, laidKinds := [.data, .data, .data, .data, .pinned], laidTests := true, laidLooks := .later }
def ValueAddsUptoCardSaid : Prop := Claim7.holds Tryd.pinned (.plain (OpenSpec.upto valueAddsSpec)) valueAddsUptoCard

/-- THE SECOND FORM's CARD OF 'catchmentlaw01.ValueSums'. -/
def valueSumsUptoCard : Claim7 := { stood := { row := valueSumsUptoRow, standIns := [], harness := (true, "b09e03115662f4c406f09845a5d245a0bb1dea2444c0faa156b0e0263f91fc90"), looks := false }, kinds := [], alts := [], laidByText := true, laidKinds := [.data, .data, .data, .data, .pinned], laidTests := true, laidLooks := .later }
def ValueSumsUptoCardSaid : Prop := Claim7.holds Tryd.pinned (.plain (OpenSpec.upto valueSumsSpec)) valueSumsUptoCard

/-- THE SECOND FORM's CARD OF 'catchmentlaw01.ValueBuckets'. -/
def valueBucketsUptoCard : Claim7 := { stood := { row := valueBucketsUptoRow, standIns := [], harness := (true, "b09e03115662f4c406f09845a5d245a0bb1dea2444c0faa156b0e0263f91fc90"), looks := false }, kinds := [], alts := [], laidByText := true, laidKinds := [.data, .data, .data, .data, .pinned], laidTests := true, laidLooks := .later }
def ValueBucketsUptoCardSaid : Prop := Claim7.holds Tryd.pinned (.plain (OpenSpec.upto valueBucketsSpec)) valueBucketsUptoCard

/-- THE SECOND FORM's CARD OF 'catchmentlaw01.ValueMakes'. -/
def valueMakesUptoCard : Claim7 := { stood := { row := valueMakesUptoRow, standIns := [], harness := (true, "b09e03115662f4c406f09845a5d245a0bb1dea2444c0faa156b0e0263f91fc90"), looks := false }, kinds := [], alts := [], laidByText := true, laidKinds := [.data, .data, .data, .data, .pinned], laidTests := true, laidLooks := .later }
def ValueMakesUptoCardSaid : Prop := Claim7.holds Tryd.pinned (.plain (OpenSpec.upto valueMakesSpec)) valueMakesUptoCard

/-- THE SECOND FORM's CARD OF 'catchmentlaw01.ValueHow'. -/
def valueHowUptoCard : Claim7 := { stood := { row := valueHowUptoRow, standIns := [], harness := (true, "b09e03115662f4c406f09845a5d245a0bb1dea2444c0faa156b0e0263f91fc90"), looks := false }, kinds := [], alts := [], laidByText := true, laidKinds := [.data, .data, .data, .data, .pinned], laidTests := true, laidLooks := .later }
def ValueHowUptoCardSaid : Prop := Claim7.holds Tryd.pinned (.plain (OpenSpec.upto valueHowSpec)) valueHowUptoCard

/-- THE SECOND FORM's CARD OF 'catchmentlaw01.ValueTells'. -/
def valueTellsUptoCard : Claim7 := { stood := { row := valueTellsUptoRow, standIns := [], harness := (true, "b09e03115662f4c406f09845a5d245a0bb1dea2444c0faa156b0e0263f91fc90"), looks := false }, kinds := [], alts := [], laidByText := true, laidKinds := [.data, .data, .data, .data, .pinned], laidTests := true, laidLooks := .later }
def ValueTellsUptoCardSaid : Prop := Claim7.holds Tryd.pinned (.plain (OpenSpec.upto valueTellsSpec)) valueTellsUptoCard

/-- THE SECOND FORM's CARD OF 'catchmentlaw01.ValueNoughts'. -/
def valueNoughtsUptoCard : Claim7 := { stood := { row := valueNoughtsUptoRow, standIns := [], harness := (true, "b09e03115662f4c406f09845a5d245a0bb1dea2444c0faa156b0e0263f91fc90"), looks := false }, kinds := [], alts := [], laidByText := true, laidKinds := [.data, .data, .data, .data, .pinned], laidTests := true, laidLooks := .later }
def ValueNoughtsUptoCardSaid : Prop := Claim7.holds Tryd.pinned (.plain (OpenSpec.upto valueNoughtsSpec)) valueNoughtsUptoCard
end Rows
end Go.Proofs.YtmohocmmelaeaaaDoor
