/-
  DERIVED. GIVEN WITH THE SEED: THE CARDS: each row of YtolbojchdlojnaaGreatDoorRows.lean that lists a variable, with what it lists TIED to the program's text (the seventh form; the later family's looks); each row that meets fmt, with fmt's text TOLD by the authors' own Lean function (tested against real Go, not proved from fmt's source: count such statements apart). THE CARD IS WHAT COUNTS. Prove the row's statement (the work); the ties are given (YtolbojchdlojnaaGreatDoorTie.lean); close each card by the builder's one call (the guide's Derived/Test/ToyasCard.lean, 'card_holds'). Laid BY PROGRAM, IN A SANDBOX (cutbox-door.mjs). By AI agents, Wed Nov 11 2026. No macro, syntax, notation, axiom, sorry.
-/
import Derived.Test.YtolbojchdlojnaaGreatDoorRows
import GoSem.ClaimSeven
namespace Go.Proofs.YtolbojchdlojnaaGreatDoor
namespace Rows

/-- THE TIED CARD OF 'tranchelaw47.MoneyweightedTwo'. -/
def moneyweightedTwoCard : Claim7 := { stood := { row := moneyweightedTwoRow, standIns := [], harness := (true, "be17293b1b9e822779f7b9dbd8b4542fef0049a6642ed80537bcc17ba0f9f0cf"), looks := true }, kinds := [], alts := [], laidByText := true, laidKinds := [.data, .data, .data, .data, .sentinel, .sentinel, .pinned], laidTests := true, laidLooks := .later }
def MoneyweightedTwoCardSaid : Prop := Claim7.holds Tryz.pinned (.plain (OpenSpec.ofChange moneyweightedTwoSpec)) moneyweightedTwoCard

/-- THE TIED CARD OF 'tranchelaw47.MoneyweightedInvariant'. -/
def moneyweightedInvariantCard : Claim7 := { stood := { row := moneyweightedInvariantRow, standIns := [], harness := (true, "be17293b1b9e822779f7b9dbd8b4542fef0049a6642ed80537bcc17ba0f9f0cf"), looks := true }, kinds := [], alts := [], laidByText := true, laidKinds := [.data, .data, .data, .data, .sentinel, .sentinel, .pinned], laidTests := true, laidLooks := .later }
def MoneyweightedInvariantCardSaid : Prop := Claim7.holds Tryz.pinned (.plain (OpenSpec.ofChange moneyweightedInvariantSpec)) moneyweightedInvariantCard

/-- THE TIED CARD OF 'tranchelaw47.MoneyweightedValues'. -/
def moneyweightedValuesCard : Claim7 := { stood := { row := moneyweightedValuesRow, standIns := [], harness := (true, "be17293b1b9e822779f7b9dbd8b4542fef0049a6642ed80537bcc17ba0f9f0cf"), looks := true }, kinds := [], alts := [], laidByText := true, laidKinds := [.data, .data, .data, .data, .sentinel, .sentinel, .pinned], laidTests := true, laidLooks := .later }
def MoneyweightedValuesCardSaid : Prop := Claim7.holds Tryz.pinned (.plain (OpenSpec.ofChange moneyweightedValuesSpec)) moneyweightedValuesCard

/-- THE TIED CARD OF 'tranchelaw47.MoneyweightedBounds'. -/
def moneyweightedBoundsCard : Claim7 := { stood := { row := moneyweightedBoundsRow, standIns := [], harness := (true, "be17293b1b9e822779f7b9dbd8b4542fef0049a6642ed80537bcc17ba0f9f0cf"), looks := true }, kinds := [], alts := [], laidByText := true, laidKinds := [.data, .data, .data, .data, .sentinel, .sentinel, .pinned], laidTests := true, laidLooks := .later }
def MoneyweightedBoundsCardSaid : Prop := Claim7.holds Tryz.pinned (.plain (OpenSpec.ofChange moneyweightedBoundsSpec)) moneyweightedBoundsCard

/-- THE TIED CARD OF 'tranchelaw47.MoneyweightedProved'. -/
def moneyweightedProvedCard : Claim7 := { stood := { row := moneyweightedProvedRow, standIns := [], harness := (true, "be17293b1b9e822779f7b9dbd8b4542fef0049a6642ed80537bcc17ba0f9f0cf"), looks := true }, kinds := [], alts := [], laidByText := true, laidKinds := [.data, .data, .data, .data, .sentinel, .sentinel, .pinned], laidTests := true, laidLooks := .later }
def MoneyweightedProvedCardSaid : Prop := Claim7.holds Tryz.pinned (.plain (OpenSpec.ofChange moneyweightedProvedSpec)) moneyweightedProvedCard

/-- THE TIED CARD OF 'tranchelaw10.InstrumentParts'. -/
def instrumentPartsCard : Claim7 := { stood := { row := instrumentPartsRow, standIns := [], harness := (true, "be17293b1b9e822779f7b9dbd8b4542fef0049a6642ed80537bcc17ba0f9f0cf"), looks := true }, kinds := [], alts := [], laidByText := true, laidKinds := [.data, .data, .data, .data, .sentinel, .sentinel, .pinned], laidTests := true, laidLooks := .later }
def InstrumentPartsCardSaid : Prop := Claim7.holds Tryz.pinned (.plain (OpenSpec.ofChange instrumentPartsSpec)) instrumentPartsCard

/-- THE TIED CARD OF 'tranchelaw47.MoneyweightedSigns'. -/
def moneyweightedSignsCard : Claim7 := { stood := { row := moneyweightedSignsRow, standIns := [], harness := (true, "be17293b1b9e822779f7b9dbd8b4542fef0049a6642ed80537bcc17ba0f9f0cf"), looks := true }, kinds := [], alts := [], laidByText := true, laidKinds := [.data, .data, .data, .data, .sentinel, .sentinel, .pinned], laidTests := true, laidLooks := .later }
def MoneyweightedSignsCardSaid : Prop := Claim7.holds Tryz.pinned (.plain (OpenSpec.ofChange moneyweightedSignsSpec)) moneyweightedSignsCard

/-- THE TIED CARD OF 'tranchelaw47.MoneyweightedLinear'. -/
def moneyweightedLinearCard : Claim7 := { stood := { row := moneyweightedLinearRow, standIns := [], harness := (true, "be17293b1b9e822779f7b9dbd8b4542fef0049a6642ed80537bcc17ba0f9f0cf"), looks := true }, kinds := [], alts := [], laidByText := true, laidKinds := [.data, .data, .data, .data, .sentinel, .sentinel, .pinned], laidTests := true, laidLooks := .later }
def MoneyweightedLinearCardSaid : Prop := Claim7.holds Tryz.pinned (.plain (OpenSpec.ofChange moneyweightedLinearSpec)) moneyweightedLinearCard

/-- THE TIED CARD OF 'tranchelaw47.MoneyweightedOf'. -/
def moneyweightedOfCard : Claim7 := { stood := { row := moneyweightedOfRow, standIns := [], harness := (true, "be17293b1b9e822779f7b9dbd8b4542fef0049a6642ed80537bcc17ba0f9f0cf"), looks := true }, kinds := [], alts := [], laidByText := true, laidKinds := [.data, .data, .data, .data, .sentinel, .sentinel, .pinned], laidTests := true, laidLooks := .later }
def MoneyweightedOfCardSaid : Prop := Claim7.holds Tryz.pinned (.plain (OpenSpec.ofChange moneyweightedOfSpec)) moneyweightedOfCard

/-- THE SECOND FORM's CARD OF 'tranchelaw47.MoneyweightedTwo'. -/
def moneyweightedTwoUptoCard : Claim7 := { stood := { row := moneyweightedTwoUptoRow, standIns := [], harness := (true, "be17293b1b9e822779f7b9dbd8b4542fef0049a6642ed80537bcc17ba0f9f0cf"), looks := true }, kinds := [], alts := [], laidByText := true, laidKinds := [.data, .data, .data, .data, .sentinel, .sentinel, .pinned], laidTests := true, laidLooks := .later }
def MoneyweightedTwoUptoCardSaid : Prop := Claim7.holds Tryz.pinned (.plain (OpenSpec.upto moneyweightedTwoSpec)) moneyweightedTwoUptoCard

/-- THE SECOND FORM's CARD OF 'tranchelaw47.MoneyweightedInvariant'. -/
def moneyweightedInvariantUptoCard : Claim7 := { stood := { row := moneyweightedInvariantUptoRow, standIns := [], harness := (true, "be17293b1b9e822779f7b9dbd8b4542fef0049a6642ed80537bcc17ba0f9f0cf"), looks := true }, kinds := [], alts := [], laidByText := true, laidKinds := [.data, .data, .data, .data, .sentinel, .sentinel, .pinned], laidTests := true, laidLooks := .later }
def MoneyweightedInvariantUptoCardSaid : Prop := Claim7.holds Tryz.pinned (.plain (OpenSpec.upto moneyweightedInvariantSpec)) moneyweightedInvariantUptoCard

/-- THE SECOND FORM's CARD OF 'tranchelaw47.MoneyweightedValues'. -/
def moneyweightedValuesUptoCard : Claim7 := { stood := { row := moneyweightedValuesUptoRow, standIns := [], harness := (true, "be17293b1b9e822779f7b9dbd8b4542fef0049a6642ed80537bcc17ba0f9f0cf"), looks := true }, kinds := [], alts := [], laidByText := true, laidKinds := [.data, .data, .data, .data, .sentinel, .sentinel, .pinned], laidTests := true, laidLooks := .later }
def MoneyweightedValuesUptoCardSaid : Prop := Claim7.holds Tryz.pinned (.plain (OpenSpec.upto moneyweightedValuesSpec)) moneyweightedValuesUptoCard

/-- THE SECOND FORM's CARD OF 'tranchelaw47.MoneyweightedBounds'. -/
def moneyweightedBoundsUptoCard : Claim7 := { stood := { row := moneyweightedBoundsUptoRow, standIns := [], harness := (true, "be17293b1b9e822779f7b9dbd8b4542fef0049a6642ed80537bcc17ba0f9f0cf"), looks := true }, kinds := [], alts := [], laidByText := true, laidKinds := [.data, .data, .data, .data, .sentinel, .sentinel, .pinned], laidTests := true, laidLooks := .later }
def MoneyweightedBoundsUptoCardSaid : Prop := Claim7.holds Tryz.pinned (.plain (OpenSpec.upto moneyweightedBoundsSpec)) moneyweightedBoundsUptoCard

/-- THE SECOND FORM's CARD OF 'tranchelaw47.MoneyweightedProved'. -/
def moneyweightedProvedUptoCard : Claim7 := { stood := { row := moneyweightedProvedUptoRow, standIns := [], harness := (true, "be17293b1b9e822779f7b9dbd8b4542fef0049a6642ed80537bcc17ba0f9f0cf"), looks := true }, kinds := [], alts := [], laidByText := true, laidKinds := [.data, .data, .data, .data, .sentinel, .sentinel, .pinned], laidTests := true, laidLooks := .later }
def MoneyweightedProvedUptoCardSaid : Prop := Claim7.holds Tryz.pinned (.plain (OpenSpec.upto moneyweightedProvedSpec)) moneyweightedProvedUptoCard

/-- THE SECOND FORM's CARD OF 'tranchelaw10.InstrumentParts'. -/
def instrumentPartsUptoCard : Claim7 := { stood := { row := instrumentPartsUptoRow, standIns := [], harness := (true, "be17293b1b9e822779f7b9dbd8b4542fef0049a6642ed80537bcc17ba0f9f0cf"), looks := true }, kinds := [], alts := [], laidByText := true, laidKinds := [.data, .data, .data, .data, .sentinel, .sentinel, .pinned], laidTests := true, laidLooks := .later }
def InstrumentPartsUptoCardSaid : Prop := Claim7.holds Tryz.pinned (.plain (OpenSpec.upto instrumentPartsSpec)) instrumentPartsUptoCard

/-- THE SECOND FORM's CARD OF 'tranchelaw47.MoneyweightedSigns'. -/
def moneyweightedSignsUptoCard : Claim7 := { stood := { row := moneyweightedSignsUptoRow, standIns := [], harness := (true, "be17293b1b9e822779f7b9dbd8b4542fef0049a6642ed80537bcc17ba0f9f0cf"), looks := true }, kinds := [], alts := [], laidByText := true, laidKinds := [.data, .data, .data, .data, .sentinel, .sentinel, .pinned], laidTests := true, laidLooks := .later }
def MoneyweightedSignsUptoCardSaid : Prop := Claim7.holds Tryz.pinned (.plain (OpenSpec.upto moneyweightedSignsSpec)) moneyweightedSignsUptoCard

/-- THE SECOND FORM's CARD OF 'tranchelaw47.MoneyweightedLinear'. -/
def moneyweightedLinearUptoCard : Claim7 := { stood := { row := moneyweightedLinearUptoRow, standIns := [], harness := (true, "be17293b1b9e822779f7b9dbd8b4542fef0049a6642ed80537bcc17ba0f9f0cf"), looks := true }, kinds := [], alts := [], laidByText := true, laidKinds := [.data, .data, .data, .data, .sentinel, .sentinel, .pinned], laidTests := true, laidLooks := .later }
def MoneyweightedLinearUptoCardSaid : Prop := Claim7.holds Tryz.pinned (.plain (OpenSpec.upto moneyweightedLinearSpec)) moneyweightedLinearUptoCard

/-- THE SECOND FORM's CARD OF 'tranchelaw47.MoneyweightedOf'. -/
def moneyweightedOfUptoCard : Claim7 := { stood := { row := moneyweightedOfUptoRow, standIns := [], harness := (true, "be17293b1b9e822779f7b9dbd8b4542fef0049a6642ed80537bcc17ba0f9f0cf"), looks := true }, kinds := [], alts := [], laidByText := true, laidKinds := [.data, .data, .data, .data, .sentinel, .sentinel, .pinned], laidTests := true, laidLooks := .later }
def MoneyweightedOfUptoCardSaid : Prop := Claim7.holds Tryz.pinned (.plain (OpenSpec.upto moneyweightedOfSpec)) moneyweightedOfUptoCard
end Rows
end Go.Proofs.YtolbojchdlojnaaGreatDoor
