/-
  DERIVED. GIVEN WITH THE SEED: THE CARDS: each row of YtdbmjbcgcajojaaGreatDoorRows.lean that lists a variable, with what it lists TIED to the program's text (the seventh form; the later family's looks); each row that meets fmt, with fmt's text TOLD by the authors' own Lean function (tested against real Go, not proved from fmt's source: count such statements apart). THE CARD IS WHAT COUNTS. Prove the row's statement (the work); the ties are given (YtdbmjbcgcajojaaGreatDoorTie.lean); close each card by the builder's one call (the guide's Derived/Test/ToyasCard.lean, 'card_holds'). Laid BY PROGRAM, IN A SANDBOX (cutbox-door.mjs). By AI agents, Wed Nov 11 2026. No macro, syntax, notation, axiom, sorry.
-/
import Derived.Test.YtdbmjbcgcajojaaGreatDoorRows
import GoSem.ClaimSeven
namespace Go.Proofs.YtdbmjbcgcajojaaGreatDoor
namespace Rows

/-- THE TIED CARD OF 'tranchelaw02.FractionReads'. -/
def fractionReadsCard : Claim7 := { stood := { row := fractionReadsRow, standIns := [], harness := (true, "acb4d9de5a940bbde32c6ba636bda4143dedfe5d64e217ccb44a2009d8075a4d"), looks := true }, kinds := [], alts := [], laidByText := true, laidKinds := [.data, .data, .data, .data, .sentinel, .sentinel, .pinned], laidTests := true, laidLooks := .later }
def FractionReadsCardSaid : Prop := Claim7.holds Tryz.pinned (.plain (OpenSpec.ofChange fractionReadsSpec)) fractionReadsCard

/-- THE TIED CARD OF 'tranchelaw02.FractionArithmetic'. -/
def fractionArithmeticCard : Claim7 := { stood := { row := fractionArithmeticRow, standIns := [], harness := (true, "acb4d9de5a940bbde32c6ba636bda4143dedfe5d64e217ccb44a2009d8075a4d"), looks := true }, kinds := [], alts := [], laidByText := true, laidKinds := [.data, .data, .data, .data, .sentinel, .sentinel, .pinned], laidTests := true, laidLooks := .later }
def FractionArithmeticCardSaid : Prop := Claim7.holds Tryz.pinned (.plain (OpenSpec.ofChange fractionArithmeticSpec)) fractionArithmeticCard

/-- THE TIED CARD OF 'tranchelaw02.FractionTexts'. -/
def fractionTextsCard : Claim7 := { stood := { row := fractionTextsRow, standIns := [], harness := (true, "acb4d9de5a940bbde32c6ba636bda4143dedfe5d64e217ccb44a2009d8075a4d"), looks := true }, kinds := [], alts := [], laidByText := true, laidKinds := [.data, .data, .data, .data, .sentinel, .sentinel, .pinned], laidTests := true, laidLooks := .later }
def FractionTextsCardSaid : Prop := Claim7.holds Tryz.pinned (.plain (OpenSpec.ofChange fractionTextsSpec)) fractionTextsCard

/-- THE TIED CARD OF 'tranchelaw10.InstrumentLife'. -/
def instrumentLifeCard : Claim7 := { stood := { row := instrumentLifeRow, standIns := [], harness := (true, "acb4d9de5a940bbde32c6ba636bda4143dedfe5d64e217ccb44a2009d8075a4d"), looks := true }, kinds := [], alts := [], laidByText := true, laidKinds := [.data, .data, .data, .data, .sentinel, .sentinel, .pinned], laidTests := true, laidLooks := .later }
def InstrumentLifeCardSaid : Prop := Claim7.holds Tryz.pinned (.plain (OpenSpec.ofChange instrumentLifeSpec)) instrumentLifeCard

/-- THE TIED CARD OF 'tranchelaw10.InstrumentFields'. -/
def instrumentFieldsCard : Claim7 := { stood := { row := instrumentFieldsRow, standIns := [], harness := (true, "acb4d9de5a940bbde32c6ba636bda4143dedfe5d64e217ccb44a2009d8075a4d"), looks := true }, kinds := [], alts := [], laidByText := true, laidKinds := [.data, .data, .data, .data, .sentinel, .sentinel, .pinned], laidTests := true, laidLooks := .later }
def InstrumentFieldsCardSaid : Prop := Claim7.holds Tryz.pinned (.plain (OpenSpec.ofChange instrumentFieldsSpec)) instrumentFieldsCard

/-- THE TIED CARD OF 'tranchelaw10.InstrumentChecks'. -/
def instrumentChecksCard : Claim7 := { stood := { row := instrumentChecksRow, standIns := [], harness := (true, "acb4d9de5a940bbde32c6ba636bda4143dedfe5d64e217ccb44a2009d8075a4d"), looks := true }, kinds := [], alts := [], laidByText := true, laidKinds := [.data, .data, .data, .data, .sentinel, .sentinel, .pinned], laidTests := true, laidLooks := .later }
def InstrumentChecksCardSaid : Prop := Claim7.holds Tryz.pinned (.plain (OpenSpec.ofChange instrumentChecksSpec)) instrumentChecksCard

/-- THE TIED CARD OF 'tranchelaw10.InstrumentKinds'. -/
def instrumentKindsCard : Claim7 := { stood := { row := instrumentKindsRow, standIns := [], harness := (true, "acb4d9de5a940bbde32c6ba636bda4143dedfe5d64e217ccb44a2009d8075a4d"), looks := true }, kinds := [], alts := [], laidByText := true, laidKinds := [.data, .data, .data, .data, .sentinel, .sentinel, .pinned], laidTests := true, laidLooks := .later }
def InstrumentKindsCardSaid : Prop := Claim7.holds Tryz.pinned (.plain (OpenSpec.ofChange instrumentKindsSpec)) instrumentKindsCard

/-- THE TIED CARD OF 'tranchelaw10.InstrumentParts'. -/
def instrumentPartsCard : Claim7 := { stood := { row := instrumentPartsRow, standIns := [], harness := (true, "acb4d9de5a940bbde32c6ba636bda4143dedfe5d64e217ccb44a2009d8075a4d"), looks := true }, kinds := [], alts := [], laidByText := true, laidKinds := [.data, .data, .data, .data, .sentinel, .sentinel, .pinned], laidTests := true, laidLooks := .later }
def InstrumentPartsCardSaid : Prop := Claim7.holds Tryz.pinned (.plain (OpenSpec.ofChange instrumentPartsSpec)) instrumentPartsCard

/-- THE TIED CARD OF 'tranchelaw10.InstrumentAlive'. -/
def instrumentAliveCard : Claim7 := { stood := { row := instrumentAliveRow, standIns := [], harness := (true, "acb4d9de5a940bbde32c6ba636bda4143dedfe5d64e217ccb44a2009d8075a4d"), looks := true }, kinds := [], alts := [], laidByText := true, laidKinds := [.data, .data, .data, .data, .sentinel, .sentinel, .pinned], laidTests := true, laidLooks := .later }
def InstrumentAliveCardSaid : Prop := Claim7.holds Tryz.pinned (.plain (OpenSpec.ofChange instrumentAliveSpec)) instrumentAliveCard

/-- THE TIED CARD OF 'tranchelaw10.InstrumentLists'. -/
def instrumentListsCard : Claim7 := { stood := { row := instrumentListsRow, standIns := [], harness := (true, "acb4d9de5a940bbde32c6ba636bda4143dedfe5d64e217ccb44a2009d8075a4d"), looks := true }, kinds := [], alts := [], laidByText := true, laidKinds := [.data, .data, .data, .data, .sentinel, .sentinel, .pinned], laidTests := true, laidLooks := .later }
def InstrumentListsCardSaid : Prop := Claim7.holds Tryz.pinned (.plain (OpenSpec.ofChange instrumentListsSpec)) instrumentListsCard

/-- THE SECOND FORM's CARD OF 'tranchelaw02.FractionReads'. -/
def fractionReadsUptoCard : Claim7 := { stood := { row := fractionReadsUptoRow, standIns := [], harness := (true, "acb4d9de5a940bbde32c6ba636bda4143dedfe5d64e217ccb44a2009d8075a4d"), looks := true }, kinds := [], alts := [], laidByText := true, laidKinds := [.data, .data, .data, .data, .sentinel, .sentinel, .pinned], laidTests := true, laidLooks := .later }
def FractionReadsUptoCardSaid : Prop := Claim7.holds Tryz.pinned (.plain (OpenSpec.upto fractionReadsSpec)) fractionReadsUptoCard

/-- THE SECOND FORM's CARD OF 'tranchelaw02.FractionArithmetic'. -/
def fractionArithmeticUptoCard : Claim7 := { stood := { row := fractionArithmeticUptoRow, standIns := [], harness := (true, "acb4d9de5a940bbde32c6ba636bda4143dedfe5d64e217ccb44a2009d8075a4d"), looks := true }, kinds := [], alts := [], laidByText := true, laidKinds := [.data, .data, .data, .data, .sentinel, .sentinel, .pinned], laidTests := true, laidLooks := .later }
def FractionArithmeticUptoCardSaid : Prop := Claim7.holds Tryz.pinned (.plain (OpenSpec.upto fractionArithmeticSpec)) fractionArithmeticUptoCard

/-- THE SECOND FORM's CARD OF 'tranchelaw02.FractionTexts'. -/
def fractionTextsUptoCard : Claim7 := { stood := { row := fractionTextsUptoRow, standIns := [], harness := (true, "acb4d9de5a940bbde32c6ba636bda4143dedfe5d64e217ccb44a2009d8075a4d"), looks := true }, kinds := [], alts := [], laidByText := true, laidKinds := [.data, .data, .data, .data, .sentinel, .sentinel, .pinned], laidTests := true, laidLooks := .later }
def FractionTextsUptoCardSaid : Prop := Claim7.holds Tryz.pinned (.plain (OpenSpec.upto fractionTextsSpec)) fractionTextsUptoCard

/-- THE SECOND FORM's CARD OF 'tranchelaw10.InstrumentLife'. -/
def instrumentLifeUptoCard : Claim7 := { stood := { row := instrumentLifeUptoRow, standIns := [], harness := (true, "acb4d9de5a940bbde32c6ba636bda4143dedfe5d64e217ccb44a2009d8075a4d"), looks := true }, kinds := [], alts := [], laidByText := true, laidKinds := [.data, .data, .data, .data, .sentinel, .sentinel, .pinned], laidTests := true, laidLooks := .later }
def InstrumentLifeUptoCardSaid : Prop := Claim7.holds Tryz.pinned (.plain (OpenSpec.upto instrumentLifeSpec)) instrumentLifeUptoCard

/-- THE SECOND FORM's CARD OF 'tranchelaw10.InstrumentFields'. -/
def instrumentFieldsUptoCard : Claim7 := { stood := { row := instrumentFieldsUptoRow, standIns := [], harness := (true, "acb4d9de5a940bbde32c6ba636bda4143dedfe5d64e217ccb44a2009d8075a4d"), looks := true }, kinds := [], alts := [], laidByText := true, laidKinds := [.data, .data, .data, .data, .sentinel, .sentinel, .pinned], laidTests := true, laidLooks := .later }
def InstrumentFieldsUptoCardSaid : Prop := Claim7.holds Tryz.pinned (.plain (OpenSpec.upto instrumentFieldsSpec)) instrumentFieldsUptoCard

/-- THE SECOND FORM's CARD OF 'tranchelaw10.InstrumentChecks'. -/
def instrumentChecksUptoCard : Claim7 := { stood := { row := instrumentChecksUptoRow, standIns := [], harness := (true, "acb4d9de5a940bbde32c6ba636bda4143dedfe5d64e217ccb44a2009d8075a4d"), looks := true }, kinds := [], alts := [], laidByText := true, laidKinds := [.data, .data, .data, .data, .sentinel, .sentinel, .pinned], laidTests := true, laidLooks := .later }
def InstrumentChecksUptoCardSaid : Prop := Claim7.holds Tryz.pinned (.plain (OpenSpec.upto instrumentChecksSpec)) instrumentChecksUptoCard

/-- THE SECOND FORM's CARD OF 'tranchelaw10.InstrumentKinds'. -/
def instrumentKindsUptoCard : Claim7 := { stood := { row := instrumentKindsUptoRow, standIns := [], harness := (true, "acb4d9de5a940bbde32c6ba636bda4143dedfe5d64e217ccb44a2009d8075a4d"), looks := true }, kinds := [], alts := [], laidByText := true, laidKinds := [.data, .data, .data, .data, .sentinel, .sentinel, .pinned], laidTests := true, laidLooks := .later }
def InstrumentKindsUptoCardSaid : Prop := Claim7.holds Tryz.pinned (.plain (OpenSpec.upto instrumentKindsSpec)) instrumentKindsUptoCard

/-- THE SECOND FORM's CARD OF 'tranchelaw10.InstrumentParts'. -/
def instrumentPartsUptoCard : Claim7 := { stood := { row := instrumentPartsUptoRow, standIns := [], harness := (true, "acb4d9de5a940bbde32c6ba636bda4143dedfe5d64e217ccb44a2009d8075a4d"), looks := true }, kinds := [], alts := [], laidByText := true, laidKinds := [.data, .data, .data, .data, .sentinel, .sentinel, .pinned], laidTests := true, laidLooks := .later }
def InstrumentPartsUptoCardSaid : Prop := Claim7.holds Tryz.pinned (.plain (OpenSpec.upto instrumentPartsSpec)) instrumentPartsUptoCard

/-- THE SECOND FORM's CARD OF 'tranchelaw10.InstrumentAlive'. -/
def instrumentAliveUptoCard : Claim7 := { stood := { row := instrumentAliveUptoRow, standIns := [], harness := (true, "acb4d9de5a940bbde32c6ba636bda4143dedfe5d64e217ccb44a2009d8075a4d"), looks := true }, kinds := [], alts := [], laidByText := true, laidKinds := [.data, .data, .data, .data, .sentinel, .sentinel, .pinned], laidTests := true, laidLooks := .later }
def InstrumentAliveUptoCardSaid : Prop := Claim7.holds Tryz.pinned (.plain (OpenSpec.upto instrumentAliveSpec)) instrumentAliveUptoCard

/-- THE SECOND FORM's CARD OF 'tranchelaw10.InstrumentLists'. -/
def instrumentListsUptoCard : Claim7 := { stood := { row := instrumentListsUptoRow, standIns := [], harness := (true, "acb4d9de5a940bbde32c6ba636bda4143dedfe5d64e217ccb44a2009d8075a4d"), looks := true }, kinds := [], alts := [], laidByText := true, laidKinds := [.data, .data, .data, .data, .sentinel, .sentinel, .pinned], laidTests := true, laidLooks := .later }
def InstrumentListsUptoCardSaid : Prop := Claim7.holds Tryz.pinned (.plain (OpenSpec.upto instrumentListsSpec)) instrumentListsUptoCard
end Rows
end Go.Proofs.YtdbmjbcgcajojaaGreatDoor
