/-
  DERIVED. GIVEN WITH THE SEED: THE CARDS: each row of YtmjglcgdcclinaaGreatDoorRows.lean that lists a variable, with what it lists TIED to the program's text (the seventh form; the later family's looks); each row that meets fmt, with fmt's text TOLD by the authors' own Lean function (tested against real Go, not proved from fmt's source: count such statements apart). THE CARD IS WHAT COUNTS. Prove the row's statement (the work); the ties are given (YtmjglcgdcclinaaGreatDoorTie.lean); close each card by the builder's one call (the guide's Derived/Test/ToyasCard.lean, 'card_holds'). Laid BY PROGRAM, IN A SANDBOX (cutbox-door.mjs). By AI agents, Wed Nov 11 2026. No macro, syntax, notation, axiom, sorry.
-/
import Derived.Test.YtmjglcgdcclinaaGreatDoorRows
import GoSem.ClaimSeven
namespace Go.Proofs.YtmjglcgdcclinaaGreatDoor
namespace Rows

/-- THE TIED CARD OF 'tranchelaw10.InstrumentParts'. -/
def instrumentPartsCard : Claim7 := { stood := { row := instrumentPartsRow, standIns := [], harness := (true, "16f3bf3725800b2b049ebdcdceffe7b6f5287135a013e054aaae6031ea6f4e2a"), looks := true }, kinds := [], alts := [], laidByText := true, laidKinds := [.data, .data, .data, .data, .sentinel, .sentinel, .pinned], laidTests := true, laidLooks := .later }
def InstrumentPartsCardSaid : Prop := Claim7.holds Tryz.pinned (.plain (OpenSpec.ofChange instrumentPartsSpec)) instrumentPartsCard

/-- THE TIED CARD OF 'tranchelaw46.TimeweightedReads'. -/
def timeweightedReadsCard : Claim7 := { stood := { row := timeweightedReadsRow, standIns := [], harness := (true, "16f3bf3725800b2b049ebdcdceffe7b6f5287135a013e054aaae6031ea6f4e2a"), looks := true }, kinds := [], alts := [], laidByText := true, laidKinds := [.data, .data, .data, .data, .sentinel, .sentinel, .pinned], laidTests := true, laidLooks := .later }
def TimeweightedReadsCardSaid : Prop := Claim7.holds Tryz.pinned (.plain (OpenSpec.ofChange timeweightedReadsSpec)) timeweightedReadsCard

/-- THE TIED CARD OF 'tranchelaw46.TimeweightedStill'. -/
def timeweightedStillCard : Claim7 := { stood := { row := timeweightedStillRow, standIns := [], harness := (true, "16f3bf3725800b2b049ebdcdceffe7b6f5287135a013e054aaae6031ea6f4e2a"), looks := true }, kinds := [], alts := [], laidByText := true, laidKinds := [.data, .data, .data, .data, .sentinel, .sentinel, .pinned], laidTests := true, laidLooks := .later }
def TimeweightedStillCardSaid : Prop := Claim7.holds Tryz.pinned (.plain (OpenSpec.ofChange timeweightedStillSpec)) timeweightedStillCard

/-- THE TIED CARD OF 'tranchelaw46.TimeweightedScale'. -/
def timeweightedScaleCard : Claim7 := { stood := { row := timeweightedScaleRow, standIns := [], harness := (true, "16f3bf3725800b2b049ebdcdceffe7b6f5287135a013e054aaae6031ea6f4e2a"), looks := true }, kinds := [], alts := [], laidByText := true, laidKinds := [.data, .data, .data, .data, .sentinel, .sentinel, .pinned], laidTests := true, laidLooks := .later }
def TimeweightedScaleCardSaid : Prop := Claim7.holds Tryz.pinned (.plain (OpenSpec.ofChange timeweightedScaleSpec)) timeweightedScaleCard

/-- THE TIED CARD OF 'tranchelaw46.TimeweightedFirst'. -/
def timeweightedFirstCard : Claim7 := { stood := { row := timeweightedFirstRow, standIns := [], harness := (true, "16f3bf3725800b2b049ebdcdceffe7b6f5287135a013e054aaae6031ea6f4e2a"), looks := true }, kinds := [], alts := [], laidByText := true, laidKinds := [.data, .data, .data, .data, .sentinel, .sentinel, .pinned], laidTests := true, laidLooks := .later }
def TimeweightedFirstCardSaid : Prop := Claim7.holds Tryz.pinned (.plain (OpenSpec.ofChange timeweightedFirstSpec)) timeweightedFirstCard

/-- THE TIED CARD OF 'tranchelaw46.TimeweightedBounds'. -/
def timeweightedBoundsCard : Claim7 := { stood := { row := timeweightedBoundsRow, standIns := [], harness := (true, "16f3bf3725800b2b049ebdcdceffe7b6f5287135a013e054aaae6031ea6f4e2a"), looks := true }, kinds := [], alts := [], laidByText := true, laidKinds := [.data, .data, .data, .data, .sentinel, .sentinel, .pinned], laidTests := true, laidLooks := .later }
def TimeweightedBoundsCardSaid : Prop := Claim7.holds Tryz.pinned (.plain (OpenSpec.ofChange timeweightedBoundsSpec)) timeweightedBoundsCard

/-- THE TIED CARD OF 'tranchelaw46.TimeweightedAnnual'. -/
def timeweightedAnnualCard : Claim7 := { stood := { row := timeweightedAnnualRow, standIns := [], harness := (true, "16f3bf3725800b2b049ebdcdceffe7b6f5287135a013e054aaae6031ea6f4e2a"), looks := true }, kinds := [], alts := [], laidByText := true, laidKinds := [.data, .data, .data, .data, .sentinel, .sentinel, .pinned], laidTests := true, laidLooks := .later }
def TimeweightedAnnualCardSaid : Prop := Claim7.holds Tryz.pinned (.plain (OpenSpec.ofChange timeweightedAnnualSpec)) timeweightedAnnualCard

/-- THE TIED CARD OF 'tranchelaw46.TimeweightedCut'. -/
def timeweightedCutCard : Claim7 := { stood := { row := timeweightedCutRow, standIns := [], harness := (true, "16f3bf3725800b2b049ebdcdceffe7b6f5287135a013e054aaae6031ea6f4e2a"), looks := true }, kinds := [], alts := [], laidByText := true, laidKinds := [.data, .data, .data, .data, .sentinel, .sentinel, .pinned], laidTests := true, laidLooks := .later }
def TimeweightedCutCardSaid : Prop := Claim7.holds Tryz.pinned (.plain (OpenSpec.ofChange timeweightedCutSpec)) timeweightedCutCard

/-- THE TIED CARD OF 'tranchelaw46.TimeweightedLinked'. -/
def timeweightedLinkedCard : Claim7 := { stood := { row := timeweightedLinkedRow, standIns := [], harness := (true, "16f3bf3725800b2b049ebdcdceffe7b6f5287135a013e054aaae6031ea6f4e2a"), looks := true }, kinds := [], alts := [], laidByText := true, laidKinds := [.data, .data, .data, .data, .sentinel, .sentinel, .pinned], laidTests := true, laidLooks := .later }
def TimeweightedLinkedCardSaid : Prop := Claim7.holds Tryz.pinned (.plain (OpenSpec.ofChange timeweightedLinkedSpec)) timeweightedLinkedCard

/-- THE TIED CARD OF 'tranchelaw46.TimeweightedBetween'. -/
def timeweightedBetweenCard : Claim7 := { stood := { row := timeweightedBetweenRow, standIns := [], harness := (true, "16f3bf3725800b2b049ebdcdceffe7b6f5287135a013e054aaae6031ea6f4e2a"), looks := true }, kinds := [], alts := [], laidByText := true, laidKinds := [.data, .data, .data, .data, .sentinel, .sentinel, .pinned], laidTests := true, laidLooks := .later }
def TimeweightedBetweenCardSaid : Prop := Claim7.holds Tryz.pinned (.plain (OpenSpec.ofChange timeweightedBetweenSpec)) timeweightedBetweenCard

/-- THE TIED CARD OF 'tranchelaw05.MoneyTables'. -/
def moneyTablesCard : Claim7 := { stood := { row := moneyTablesRow, standIns := [], harness := (true, "16f3bf3725800b2b049ebdcdceffe7b6f5287135a013e054aaae6031ea6f4e2a"), looks := true }, kinds := [], alts := [], laidByText := true, laidKinds := [.data, .data, .data, .data, .sentinel, .sentinel, .pinned], laidTests := true, laidLooks := .later }
def MoneyTablesCardSaid : Prop := Claim7.holds Tryz.pinned (.plain (OpenSpec.ofChange moneyTablesSpec)) moneyTablesCard

/-- THE TIED CARD OF 'tranchelaw05.MoneyFound'. -/
def moneyFoundCard : Claim7 := { stood := { row := moneyFoundRow, standIns := [], harness := (true, "16f3bf3725800b2b049ebdcdceffe7b6f5287135a013e054aaae6031ea6f4e2a"), looks := true }, kinds := [], alts := [], laidByText := true, laidKinds := [.data, .data, .data, .data, .sentinel, .sentinel, .pinned], laidTests := true, laidLooks := .later }
def MoneyFoundCardSaid : Prop := Claim7.holds Tryz.pinned (.plain (OpenSpec.ofChange moneyFoundSpec)) moneyFoundCard

/-- THE SECOND FORM's CARD OF 'tranchelaw10.InstrumentParts'. -/
def instrumentPartsUptoCard : Claim7 := { stood := { row := instrumentPartsUptoRow, standIns := [], harness := (true, "16f3bf3725800b2b049ebdcdceffe7b6f5287135a013e054aaae6031ea6f4e2a"), looks := true }, kinds := [], alts := [], laidByText := true, laidKinds := [.data, .data, .data, .data, .sentinel, .sentinel, .pinned], laidTests := true, laidLooks := .later }
def InstrumentPartsUptoCardSaid : Prop := Claim7.holds Tryz.pinned (.plain (OpenSpec.upto instrumentPartsSpec)) instrumentPartsUptoCard

/-- THE SECOND FORM's CARD OF 'tranchelaw46.TimeweightedReads'. -/
def timeweightedReadsUptoCard : Claim7 := { stood := { row := timeweightedReadsUptoRow, standIns := [], harness := (true, "16f3bf3725800b2b049ebdcdceffe7b6f5287135a013e054aaae6031ea6f4e2a"), looks := true }, kinds := [], alts := [], laidByText := true, laidKinds := [.data, .data, .data, .data, .sentinel, .sentinel, .pinned], laidTests := true, laidLooks := .later }
def TimeweightedReadsUptoCardSaid : Prop := Claim7.holds Tryz.pinned (.plain (OpenSpec.upto timeweightedReadsSpec)) timeweightedReadsUptoCard

/-- THE SECOND FORM's CARD OF 'tranchelaw46.TimeweightedStill'. -/
def timeweightedStillUptoCard : Claim7 := { stood := { row := timeweightedStillUptoRow, standIns := [], harness := (true, "16f3bf3725800b2b049ebdcdceffe7b6f5287135a013e054aaae6031ea6f4e2a"), looks := true }, kinds := [], alts := [], laidByText := true, laidKinds := [.data, .data, .data, .data, .sentinel, .sentinel, .pinned], laidTests := true, laidLooks := .later }
def TimeweightedStillUptoCardSaid : Prop := Claim7.holds Tryz.pinned (.plain (OpenSpec.upto timeweightedStillSpec)) timeweightedStillUptoCard

/-- THE SECOND FORM's CARD OF 'tranchelaw46.TimeweightedScale'. -/
def timeweightedScaleUptoCard : Claim7 := { stood := { row := timeweightedScaleUptoRow, standIns := [], harness := (true, "16f3bf3725800b2b049ebdcdceffe7b6f5287135a013e054aaae6031ea6f4e2a"), looks := true }, kinds := [], alts := [], laidByText := true, laidKinds := [.data, .data, .data, .data, .sentinel, .sentinel, .pinned], laidTests := true, laidLooks := .later }
def TimeweightedScaleUptoCardSaid : Prop := Claim7.holds Tryz.pinned (.plain (OpenSpec.upto timeweightedScaleSpec)) timeweightedScaleUptoCard

/-- THE SECOND FORM's CARD OF 'tranchelaw46.TimeweightedFirst'. -/
def timeweightedFirstUptoCard : Claim7 := { stood := { row := timeweightedFirstUptoRow, standIns := [], harness := (true, "16f3bf3725800b2b049ebdcdceffe7b6f5287135a013e054aaae6031ea6f4e2a"), looks := true }, kinds := [], alts := [], laidByText := true, laidKinds := [.data, .data, .data, .data, .sentinel, .sentinel, .pinned], laidTests := true, laidLooks := .later }
def TimeweightedFirstUptoCardSaid : Prop := Claim7.holds Tryz.pinned (.plain (OpenSpec.upto timeweightedFirstSpec)) timeweightedFirstUptoCard

/-- THE SECOND FORM's CARD OF 'tranchelaw46.TimeweightedBounds'. -/
def timeweightedBoundsUptoCard : Claim7 := { stood := { row := timeweightedBoundsUptoRow, standIns := [], harness := (true, "16f3bf3725800b2b049ebdcdceffe7b6f5287135a013e054aaae6031ea6f4e2a"), looks := true }, kinds := [], alts := [], laidByText := true, laidKinds := [.data, .data, .data, .data, .sentinel, .sentinel, .pinned], laidTests := true, laidLooks := .later }
def TimeweightedBoundsUptoCardSaid : Prop := Claim7.holds Tryz.pinned (.plain (OpenSpec.upto timeweightedBoundsSpec)) timeweightedBoundsUptoCard

/-- THE SECOND FORM's CARD OF 'tranchelaw46.TimeweightedAnnual'. -/
def timeweightedAnnualUptoCard : Claim7 := { stood := { row := timeweightedAnnualUptoRow, standIns := [], harness := (true, "16f3bf3725800b2b049ebdcdceffe7b6f5287135a013e054aaae6031ea6f4e2a"), looks := true }, kinds := [], alts := [], laidByText := true, laidKinds := [.data, .data, .data, .data, .sentinel, .sentinel, .pinned], laidTests := true, laidLooks := .later }
def TimeweightedAnnualUptoCardSaid : Prop := Claim7.holds Tryz.pinned (.plain (OpenSpec.upto timeweightedAnnualSpec)) timeweightedAnnualUptoCard

/-- THE SECOND FORM's CARD OF 'tranchelaw46.TimeweightedCut'. -/
def timeweightedCutUptoCard : Claim7 := { stood := { row := timeweightedCutUptoRow, standIns := [], harness := (true, "16f3bf3725800b2b049ebdcdceffe7b6f5287135a013e054aaae6031ea6f4e2a"), looks := true }, kinds := [], alts := [], laidByText := true, laidKinds := [.data, .data, .data, .data, .sentinel, .sentinel, .pinned], laidTests := true, laidLooks := .later }
def TimeweightedCutUptoCardSaid : Prop := Claim7.holds Tryz.pinned (.plain (OpenSpec.upto timeweightedCutSpec)) timeweightedCutUptoCard

/-- THE SECOND FORM's CARD OF 'tranchelaw46.TimeweightedLinked'. -/
def timeweightedLinkedUptoCard : Claim7 := { stood := { row := timeweightedLinkedUptoRow, standIns := [], harness := (true, "16f3bf3725800b2b049ebdcdceffe7b6f5287135a013e054aaae6031ea6f4e2a"), looks := true }, kinds := [], alts := [], laidByText := true, laidKinds := [.data, .data, .data, .data, .sentinel, .sentinel, .pinned], laidTests := true, laidLooks := .later }
def TimeweightedLinkedUptoCardSaid : Prop := Claim7.holds Tryz.pinned (.plain (OpenSpec.upto timeweightedLinkedSpec)) timeweightedLinkedUptoCard

/-- THE SECOND FORM's CARD OF 'tranchelaw46.TimeweightedBetween'. -/
def timeweightedBetweenUptoCard : Claim7 := { stood := { row := timeweightedBetweenUptoRow, standIns := [], harness := (true, "16f3bf3725800b2b049ebdcdceffe7b6f5287135a013e054aaae6031ea6f4e2a"), looks := true }, kinds := [], alts := [], laidByText := true, laidKinds := [.data, .data, .data, .data, .sentinel, .sentinel, .pinned], laidTests := true, laidLooks := .later }
def TimeweightedBetweenUptoCardSaid : Prop := Claim7.holds Tryz.pinned (.plain (OpenSpec.upto timeweightedBetweenSpec)) timeweightedBetweenUptoCard

/-- THE SECOND FORM's CARD OF 'tranchelaw05.MoneyTables'. -/
def moneyTablesUptoCard : Claim7 := { stood := { row := moneyTablesUptoRow, standIns := [], harness := (true, "16f3bf3725800b2b049ebdcdceffe7b6f5287135a013e054aaae6031ea6f4e2a"), looks := true }, kinds := [], alts := [], laidByText := true, laidKinds := [.data, .data, .data, .data, .sentinel, .sentinel, .pinned], laidTests := true, laidLooks := .later }
def MoneyTablesUptoCardSaid : Prop := Claim7.holds Tryz.pinned (.plain (OpenSpec.upto moneyTablesSpec)) moneyTablesUptoCard

/-- THE SECOND FORM's CARD OF 'tranchelaw05.MoneyFound'. -/
def moneyFoundUptoCard : Claim7 := { stood := { row := moneyFoundUptoRow, standIns := [], harness := (true, "16f3bf3725800b2b049ebdcdceffe7b6f5287135a013e054aaae6031ea6f4e2a"), looks := true }, kinds := [], alts := [], laidByText := true, laidKinds := [.data, .data, .data, .data, .sentinel, .sentinel, .pinned], laidTests := true, laidLooks := .later }
def MoneyFoundUptoCardSaid : Prop := Claim7.holds Tryz.pinned (.plain (OpenSpec.upto moneyFoundSpec)) moneyFoundUptoCard
end Rows
end Go.Proofs.YtmjglcgdcclinaaGreatDoor
