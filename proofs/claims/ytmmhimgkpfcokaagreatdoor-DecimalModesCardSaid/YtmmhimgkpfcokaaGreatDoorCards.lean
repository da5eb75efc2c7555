/-
  DERIVED. GIVEN WITH THE SEED: THE CARDS: each row of YtmmhimgkpfcokaaGreatDoorRows.lean that lists a variable, with what it lists TIED to the program's text (the seventh form; the later family's looks); each row that meets fmt, with fmt's text TOLD by the authors' own Lean function (tested against real Go, not proved from fmt's source: count such statements apart). THE CARD IS WHAT COUNTS. Prove the row's statement (the work); the ties are given (YtmmhimgkpfcokaaGreatDoorTie.lean); close each card by the builder's one call (the guide's Derived/Test/ToyasCard.lean, 'card_holds'). Laid BY PROGRAM, IN A SANDBOX (cutbox-door.mjs). By AI agents, Wed Nov 11 2026. No macro, syntax, notation, axiom, sorry.
-/
import Derived.Test.YtmmhimgkpfcokaaGreatDoorRows
import GoSem.ClaimSeven
namespace Go.Proofs.YtmmhimgkpfcokaaGreatDoor
namespace Rows

/-- THE TIED CARD OF 'tranchelaw10.InstrumentParts'. -/
def instrumentPartsCard : Claim7 := { stood := { row := instrumentPartsRow, standIns := [], harness := (true, "6576b4bf81c139c7f2e01a8d79044b7430e6a89bd7229f859748b29c5b3abba0"), looks := true }, kinds := [], alts := [], laidByText := true, laidKinds := [.data, .data, .data, .data, .sentinel, .sentinel, .pinned], laidTests := true, laidLooks := .later }
def InstrumentPartsCardSaid : Prop := Claim7.holds Tryz.pinned (.plain (OpenSpec.ofChange instrumentPartsSpec)) instrumentPartsCard

/-- THE TIED CARD OF 'tranchelaw10.InstrumentLists'. -/
def instrumentListsCard : Claim7 := { stood := { row := instrumentListsRow, standIns := [], harness := (true, "6576b4bf81c139c7f2e01a8d79044b7430e6a89bd7229f859748b29c5b3abba0"), looks := true }, kinds := [], alts := [], laidByText := true, laidKinds := [.data, .data, .data, .data, .sentinel, .sentinel, .pinned], laidTests := true, laidLooks := .later }
def InstrumentListsCardSaid : Prop := Claim7.holds Tryz.pinned (.plain (OpenSpec.ofChange instrumentListsSpec)) instrumentListsCard

/-- THE TIED CARD OF 'tranchelaw03.DecimalTexts'. -/
def decimalTextsCard : Claim7 := { stood := { row := decimalTextsRow, standIns := [], harness := (true, "6576b4bf81c139c7f2e01a8d79044b7430e6a89bd7229f859748b29c5b3abba0"), looks := true }, kinds := [], alts := [], laidByText := true, laidKinds := [.data, .data, .data, .data, .sentinel, .sentinel, .pinned], laidTests := true, laidLooks := .later }
def DecimalTextsCardSaid : Prop := Claim7.holds Tryz.pinned (.plain (OpenSpec.ofChange decimalTextsSpec)) decimalTextsCard

/-- THE TIED CARD OF 'tranchelaw03.DecimalRoundTrip'. -/
def decimalRoundTripCard : Claim7 := { stood := { row := decimalRoundTripRow, standIns := [], harness := (true, "6576b4bf81c139c7f2e01a8d79044b7430e6a89bd7229f859748b29c5b3abba0"), looks := true }, kinds := [], alts := [], laidByText := true, laidKinds := [.data, .data, .data, .data, .sentinel, .sentinel, .pinned], laidTests := true, laidLooks := .later }
def DecimalRoundTripCardSaid : Prop := Claim7.holds Tryz.pinned (.plain (OpenSpec.ofChange decimalRoundTripSpec)) decimalRoundTripCard

/-- THE TIED CARD OF 'tranchelaw03.DecimalOrder'. -/
def decimalOrderCard : Claim7 := { stood := { row := decimalOrderRow, standIns := [], harness := (true, "6576b4bf81c139c7f2e01a8d79044b7430e6a89bd7229f859748b29c5b3abba0"), looks := true }, kinds := [], alts := [], laidByText := true, laidKinds := [.data, .data, .data, .data, .sentinel, .sentinel, .pinned], laidTests := true, laidLooks := .later }
def DecimalOrderCardSaid : Prop := Claim7.holds Tryz.pinned (.plain (OpenSpec.ofChange decimalOrderSpec)) decimalOrderCard

/-- THE TIED CARD OF 'tranchelaw03.DecimalModes'. -/
def decimalModesCard : Claim7 := { stood := { row := decimalModesRow, standIns := [], harness := (true, "6576b4bf81c139c7f2e01a8d79044b7430e6a89bd7229f859748b29c5b3abba0"), looks := true }, kinds := [], alts := [], laidByText := true, laidKinds := [.data, .data, .data, .data, .sentinel, .sentinel, .pinned], laidTests := true, laidLooks := .later }
def DecimalModesCardSaid : Prop := Claim7.holds Tryz.pinned (.plain (OpenSpec.ofChange decimalModesSpec)) decimalModesCard

/-- THE TIED CARD OF 'tranchelaw03.DecimalRound'. -/
def decimalRoundCard : Claim7 := { stood := { row := decimalRoundRow, standIns := [], harness := (true, "6576b4bf81c139c7f2e01a8d79044b7430e6a89bd7229f859748b29c5b3abba0"), looks := true }, kinds := [], alts := [], laidByText := true, laidKinds := [.data, .data, .data, .data, .sentinel, .sentinel, .pinned], laidTests := true, laidLooks := .later }
def DecimalRoundCardSaid : Prop := Claim7.holds Tryz.pinned (.plain (OpenSpec.ofChange decimalRoundSpec)) decimalRoundCard

/-- THE TIED CARD OF 'tranchelaw03.DecimalDistance'. -/
def decimalDistanceCard : Claim7 := { stood := { row := decimalDistanceRow, standIns := [], harness := (true, "6576b4bf81c139c7f2e01a8d79044b7430e6a89bd7229f859748b29c5b3abba0"), looks := true }, kinds := [], alts := [], laidByText := true, laidKinds := [.data, .data, .data, .data, .sentinel, .sentinel, .pinned], laidTests := true, laidLooks := .later }
def DecimalDistanceCardSaid : Prop := Claim7.holds Tryz.pinned (.plain (OpenSpec.ofChange decimalDistanceSpec)) decimalDistanceCard

/-- THE TIED CARD OF 'tranchelaw03.DecimalFinite'. -/
def decimalFiniteCard : Claim7 := { stood := { row := decimalFiniteRow, standIns := [], harness := (true, "6576b4bf81c139c7f2e01a8d79044b7430e6a89bd7229f859748b29c5b3abba0"), looks := true }, kinds := [], alts := [], laidByText := true, laidKinds := [.data, .data, .data, .data, .sentinel, .sentinel, .pinned], laidTests := true, laidLooks := .later }
def DecimalFiniteCardSaid : Prop := Claim7.holds Tryz.pinned (.plain (OpenSpec.ofChange decimalFiniteSpec)) decimalFiniteCard

/-- THE TIED CARD OF 'tranchelaw03.DecimalAccepted'. -/
def decimalAcceptedCard : Claim7 := { stood := { row := decimalAcceptedRow, standIns := [], harness := (true, "6576b4bf81c139c7f2e01a8d79044b7430e6a89bd7229f859748b29c5b3abba0"), looks := true }, kinds := [], alts := [], laidByText := true, laidKinds := [.data, .data, .data, .data, .sentinel, .sentinel, .pinned], laidTests := true, laidLooks := .later }
def DecimalAcceptedCardSaid : Prop := Claim7.holds Tryz.pinned (.plain (OpenSpec.ofChange decimalAcceptedSpec)) decimalAcceptedCard

/-- THE TIED CARD OF 'tranchelaw05.MoneyTables'. -/
def moneyTablesCard : Claim7 := { stood := { row := moneyTablesRow, standIns := [], harness := (true, "6576b4bf81c139c7f2e01a8d79044b7430e6a89bd7229f859748b29c5b3abba0"), looks := true }, kinds := [], alts := [], laidByText := true, laidKinds := [.data, .data, .data, .data, .sentinel, .sentinel, .pinned], laidTests := true, laidLooks := .later }
def MoneyTablesCardSaid : Prop := Claim7.holds Tryz.pinned (.plain (OpenSpec.ofChange moneyTablesSpec)) moneyTablesCard

/-- THE TIED CARD OF 'tranchelaw05.MoneyFound'. -/
def moneyFoundCard : Claim7 := { stood := { row := moneyFoundRow, standIns := [], harness := (true, "6576b4bf81c139c7f2e01a8d79044b7430e6a89bd7229f859748b29c5b3abba0"), looks := true }, kinds := [], alts := [], laidByText := true, laidKinds := [.data, .data, .data, .data, .sentinel, .sentinel, .pinned], laidTests := true, laidLooks := .later }
def MoneyFoundCardSaid : Prop := Claim7.holds Tryz.pinned (.plain (OpenSpec.ofChange moneyFoundSpec)) moneyFoundCard

/-- THE SECOND FORM's CARD OF 'tranchelaw10.InstrumentParts'. -/
def instrumentPartsUptoCard : Claim7 := { stood := { row := instrumentPartsUptoRow, standIns := [], harness := (true, "6576b4bf81c139c7f2e01a8d79044b7430e6a89bd7229f859748b29c5b3abba0"), looks := true }, kinds := [], alts := [], laidByText := true, laidKinds := [.data, .data, .data, .data, .sentinel, .sentinel, .pinned], laidTests := true, laidLooks := .later }
def InstrumentPartsUptoCardSaid : Prop := Claim7.holds Tryz.pinned (.plain (OpenSpec.upto instrumentPartsSpec)) instrumentPartsUptoCard

/-- THE SECOND FORM's CARD OF 'tranchelaw10.InstrumentLists'. -/
def instrumentListsUptoCard : Claim7 := { stood := { row := instrumentListsUptoRow, standIns := [], harness := (true, "6576b4bf81c139c7f2e01a8d79044b7430e6a89bd7229f859748b29c5b3abba0"), looks := true }, kinds := [], alts := [], laidByText := true, laidKinds := [.data, .data, .data, .data, .sentinel, .sentinel, .pinned], laidTests := true, laidLooks := .later }
def InstrumentListsUptoCardSaid : Prop := Claim7.holds Tryz.pinned (.plain (OpenSpec.upto instrumentListsSpec)) instrumentListsUptoCard

/-- THE SECOND FORM's CARD OF 'tranchelaw03.DecimalTexts'. -/
def decimalTextsUptoCard : Claim7 := { stood := { row := decimalTextsUptoRow, standIns := [], harness := (true, "6576b4bf81c139c7f2e01a8d79044b7430e6a89bd7229f859748b29c5b3abba0"), looks := true }, kinds := [], alts := [], laidByText := true, laidKinds := [.data, .data, .data, .data, .sentinel, .sentinel, .pinned], laidTests := true, laidLooks := .later }
def DecimalTextsUptoCardSaid : Prop := Claim7.holds Tryz.pinned (.plain (OpenSpec.upto decimalTextsSpec)) decimalTextsUptoCard

/-- THE SECOND FORM's CARD OF 'tranchelaw03.DecimalRoundTrip'. -/
def decimalRoundTripUptoCard : Claim7 := { stood := { row := decimalRoundTripUptoRow, standIns := [], harness := (true, "6576b4bf81c139c7f2e01a8d79044b7430e6a89bd7229f859748b29c5b3abba0"), looks := true }, kinds := [], alts := [], laidByText := true, laidKinds := [.data, .data, .data, .data, .sentinel, .sentinel, .pinned], laidTests := true, laidLooks := .later }
def DecimalRoundTripUptoCardSaid : Prop := Claim7.holds Tryz.pinned (.plain (OpenSpec.upto decimalRoundTripSpec)) decimalRoundTripUptoCard

/-- THE SECOND FORM's CARD OF 'tranchelaw03.DecimalOrder'. -/
def decimalOrderUptoCard : Claim7 := { stood := { row := decimalOrderUptoRow, standIns := [], harness := (true, "6576b4bf81c139c7f2e01a8d79044b7430e6a89bd7229f859748b29c5b3abba0"), looks := true }, kinds := [], alts := [], laidByText := true, laidKinds := [.data, .data, .data, .data, .sentinel, .sentinel, .pinned], laidTests := true, laidLooks := .later }
def DecimalOrderUptoCardSaid : Prop := Claim7.holds Tryz.pinned (.plain (OpenSpec.upto decimalOrderSpec)) decimalOrderUptoCard

/-- THE SECOND FORM's CARD OF 'tranchelaw03.DecimalModes'. -/
def decimalModesUptoCard : Claim7 := { stood := { row := decimalModesUptoRow, standIns := [], harness := (true, "6576b4bf81c139c7f2e01a8d79044b7430e6a89bd7229f859748b29c5b3abba0"), looks := true }, kinds := [], alts := [], laidByText := true, laidKinds := [.data, .data, .data, .data, .sentinel, .sentinel, .pinned], laidTests := true, laidLooks := .later }
def DecimalModesUptoCardSaid : Prop := Claim7.holds Tryz.pinned (.plain (OpenSpec.upto decimalModesSpec)) decimalModesUptoCard

/-- THE SECOND FORM's CARD OF 'tranchelaw03.DecimalRound'. -/
def decimalRoundUptoCard : Claim7 := { stood := { row := decimalRoundUptoRow, standIns := [], harness := (true, "6576b4bf81c139c7f2e01a8d79044b7430e6a89bd7229f859748b29c5b3abba0"), looks := true }, kinds := [], alts := [], laidByText := true, laidKinds := [.data, .data, .data, .data, .sentinel, .sentinel, .pinned], laidTests := true, laidLooks := .later }
def DecimalRoundUptoCardSaid : Prop := Claim7.holds Tryz.pinned (.plain (OpenSpec.upto decimalRoundSpec)) decimalRoundUptoCard

/-- THE SECOND FORM's CARD OF 'tranchelaw03.DecimalDistance'. -/
def decimalDistanceUptoCard : Claim7 := { stood := { row := decimalDistanceUptoRow, standIns := [], harness := (true, "6576b4bf81c139c7f2e01a8d79044b7430e6a89bd7229f859748b29c5b3abba0"), looks := true }, kinds := [], alts := [], laidByText := true, laidKinds := [.data, .data, .data, .data, .sentinel, .sentinel, .pinned], laidTests := true, laidLooks := .later }
def DecimalDistanceUptoCardSaid : Prop := Claim7.holds Tryz.pinned (.plain (OpenSpec.upto decimalDistanceSpec)) decimalDistanceUptoCard

/-- THE SECOND FORM's CARD OF 'tranchelaw03.DecimalFinite'. -/
def decimalFiniteUptoCard : Claim7 := { stood := { row := decimalFiniteUptoRow, standIns := [], harness := (true, "6576b4bf81c139c7f2e01a8d79044b7430e6a89bd7229f859748b29c5b3abba0"), looks := true }, kinds := [], alts := [], laidByText := true, laidKinds := [.data, .data, .data, .data, .sentinel, .sentinel, .pinned], laidTests := true, laidLooks := .later }
def DecimalFiniteUptoCardSaid : Prop := Claim7.holds Tryz.pinned (.plain (OpenSpec.upto decimalFiniteSpec)) decimalFiniteUptoCard

/-- THE SECOND FORM's CARD OF 'tranchelaw03.DecimalAccepted'. -/
def decimalAcceptedUptoCard : Claim7 := { stood := { row := decimalAcceptedUptoRow, standIns := [], harness := (true, "6576b4bf81c139c7f2e01a8d79044b7430e6a89bd7229f859748b29c5b3abba0"), looks := true }, kinds := [], alts := [], laidByText := true, laidKinds := [.data, .data, .data, .data, .sentinel, .sentinel, .pinned], laidTests := true, laidLooks := .later }
def DecimalAcceptedUptoCardSaid : Prop := Claim7.holds Tryz.pinned (.plain (OpenSpec.upto decimalAcceptedSpec)) decimalAcceptedUptoCard

/-- THE SECOND FORM's CARD OF 'tranchelaw05.MoneyTables'. -/
def moneyTablesUptoCard : Claim7 := { stood := { row := moneyTablesUptoRow, standIns := [], harness := (true, "6576b4bf81c139c7f2e01a8d79044b7430e6a89bd7229f859748b29c5b3abba0"), looks := true }, kinds := [], alts := [], laidByText := true, laidKinds := [.data, .data, .data, .data, .sentinel, .sentinel, .pinned], laidTests := true, laidLooks := .later }
def MoneyTablesUptoCardSaid : Prop := Claim7.holds Tryz.pinned (.plain (OpenSpec.upto moneyTablesSpec)) moneyTablesUptoCard

/-- THE SECOND FORM's CARD OF 'tranchelaw05.MoneyFound'. -/
def moneyFoundUptoCard : Claim7 := { stood := { row := moneyFoundUptoRow, standIns := [], harness := (true, "6576b4bf81c139c7f2e01a8d79044b7430e6a89bd7229f859748b29c5b3abba0"), looks := true }, kinds := [], alts := [], laidByText := true, laidKinds := [.data, .data, .data, .data, .sentinel, .sentinel, .pinned], laidTests := true, laidLooks := .later }
def MoneyFoundUptoCardSaid : Prop := Claim7.holds Tryz.pinned (.plain (OpenSpec.upto moneyFoundSpec)) moneyFoundUptoCard
end Rows
end Go.Proofs.YtmmhimgkpfcokaaGreatDoor
