/-
  DERIVED. GIVEN WITH THE SEED: THE CARDS: each row of YtgnppdkeiihlfaaGreatDoorRows.lean that lists a variable, with what it lists TIED to the program's text (the seventh form; the later family's looks); each row that meets fmt, with fmt's text TOLD by the authors' own Lean function (tested against real Go, not proved from fmt's source: count such statements apart). THE CARD IS WHAT COUNTS. Prove the row's statement (the work); the ties are given (YtgnppdkeiihlfaaGreatDoorTie.lean); close each card by the builder's one call (the guide's Derived/Test/ToyasCard.lean, 'card_holds'). Laid BY PROGRAM, IN A SANDBOX (cutbox-door.mjs). By AI agents, Wed Nov 11 2026. No macro, syntax, notation, axiom, sorry.
-/
import Derived.Test.YtgnppdkeiihlfaaGreatDoorRows
import GoSem.ClaimSeven
namespace Go.Proofs.YtgnppdkeiihlfaaGreatDoor
namespace Rows

/-- THE TIED CARD OF 'tranchelaw12.ForwardStrike'. -/
def forwardStrikeCard : Claim7 := { stood := { row := forwardStrikeRow, standIns := [], harness := (true, "e1c2b43f91295344e850f2c17ac148b797d06ffdcae61cd39cac9f2a4067f234"), looks := true }, kinds := [], alts := [], laidByText := true, laidKinds := [.data, .data, .data, .data, .sentinel, .sentinel, .pinned], laidTests := true, laidLooks := .later }
def ForwardStrikeCardSaid : Prop := Claim7.holds Tryz.pinned (.plain (OpenSpec.ofChange forwardStrikeSpec)) forwardStrikeCard

/-- THE TIED CARD OF 'tranchelaw12.ForwardDiscount'. -/
def forwardDiscountCard : Claim7 := { stood := { row := forwardDiscountRow, standIns := [], harness := (true, "e1c2b43f91295344e850f2c17ac148b797d06ffdcae61cd39cac9f2a4067f234"), looks := true }, kinds := [], alts := [], laidByText := true, laidKinds := [.data, .data, .data, .data, .sentinel, .sentinel, .pinned], laidTests := true, laidLooks := .later }
def ForwardDiscountCardSaid : Prop := Claim7.holds Tryz.pinned (.plain (OpenSpec.ofChange forwardDiscountSpec)) forwardDiscountCard

/-- THE TIED CARD OF 'tranchelaw12.ForwardOpposite'. -/
def forwardOppositeCard : Claim7 := { stood := { row := forwardOppositeRow, standIns := [], harness := (true, "e1c2b43f91295344e850f2c17ac148b797d06ffdcae61cd39cac9f2a4067f234"), looks := true }, kinds := [], alts := [], laidByText := true, laidKinds := [.data, .data, .data, .data, .sentinel, .sentinel, .pinned], laidTests := true, laidLooks := .later }
def ForwardOppositeCardSaid : Prop := Claim7.holds Tryz.pinned (.plain (OpenSpec.ofChange forwardOppositeSpec)) forwardOppositeCard

/-- THE TIED CARD OF 'tranchelaw12.ForwardRates'. -/
def forwardRatesCard : Claim7 := { stood := { row := forwardRatesRow, standIns := [], harness := (true, "e1c2b43f91295344e850f2c17ac148b797d06ffdcae61cd39cac9f2a4067f234"), looks := true }, kinds := [], alts := [], laidByText := true, laidKinds := [.data, .data, .data, .data, .sentinel, .sentinel, .pinned], laidTests := true, laidLooks := .later }
def ForwardRatesCardSaid : Prop := Claim7.holds Tryz.pinned (.plain (OpenSpec.ofChange forwardRatesSpec)) forwardRatesCard

/-- THE TIED CARD OF 'tranchelaw12.ForwardInverse'. -/
def forwardInverseCard : Claim7 := { stood := { row := forwardInverseRow, standIns := [], harness := (true, "e1c2b43f91295344e850f2c17ac148b797d06ffdcae61cd39cac9f2a4067f234"), looks := true }, kinds := [], alts := [], laidByText := true, laidKinds := [.data, .data, .data, .data, .sentinel, .sentinel, .pinned], laidTests := true, laidLooks := .later }
def ForwardInverseCardSaid : Prop := Claim7.holds Tryz.pinned (.plain (OpenSpec.ofChange forwardInverseSpec)) forwardInverseCard

/-- THE TIED CARD OF 'tranchelaw12.ForwardValues'. -/
def forwardValuesCard : Claim7 := { stood := { row := forwardValuesRow, standIns := [], harness := (true, "e1c2b43f91295344e850f2c17ac148b797d06ffdcae61cd39cac9f2a4067f234"), looks := true }, kinds := [], alts := [], laidByText := true, laidKinds := [.data, .data, .data, .data, .sentinel, .sentinel, .pinned], laidTests := true, laidLooks := .later }
def ForwardValuesCardSaid : Prop := Claim7.holds Tryz.pinned (.plain (OpenSpec.ofChange forwardValuesSpec)) forwardValuesCard

/-- THE TIED CARD OF 'tranchelaw12.ForwardSettled'. -/
def forwardSettledCard : Claim7 := { stood := { row := forwardSettledRow, standIns := [], harness := (true, "e1c2b43f91295344e850f2c17ac148b797d06ffdcae61cd39cac9f2a4067f234"), looks := true }, kinds := [], alts := [], laidByText := true, laidKinds := [.data, .data, .data, .data, .sentinel, .sentinel, .pinned], laidTests := true, laidLooks := .later }
def ForwardSettledCardSaid : Prop := Claim7.holds Tryz.pinned (.plain (OpenSpec.ofChange forwardSettledSpec)) forwardSettledCard

/-- THE TIED CARD OF 'tranchelaw12.ForwardEven'. -/
def forwardEvenCard : Claim7 := { stood := { row := forwardEvenRow, standIns := [], harness := (true, "e1c2b43f91295344e850f2c17ac148b797d06ffdcae61cd39cac9f2a4067f234"), looks := true }, kinds := [], alts := [], laidByText := true, laidKinds := [.data, .data, .data, .data, .sentinel, .sentinel, .pinned], laidTests := true, laidLooks := .later }
def ForwardEvenCardSaid : Prop := Claim7.holds Tryz.pinned (.plain (OpenSpec.ofChange forwardEvenSpec)) forwardEvenCard

/-- THE TIED CARD OF 'tranchelaw05.MoneyTables'. -/
def moneyTablesCard : Claim7 := { stood := { row := moneyTablesRow, standIns := [], harness := (true, "e1c2b43f91295344e850f2c17ac148b797d06ffdcae61cd39cac9f2a4067f234"), looks := true }, kinds := [], alts := [], laidByText := true, laidKinds := [.data, .data, .data, .data, .sentinel, .sentinel, .pinned], laidTests := true, laidLooks := .later }
def MoneyTablesCardSaid : Prop := Claim7.holds Tryz.pinned (.plain (OpenSpec.ofChange moneyTablesSpec)) moneyTablesCard

/-- THE TIED CARD OF 'tranchelaw05.MoneyFound'. -/
def moneyFoundCard : Claim7 := { stood := { row := moneyFoundRow, standIns := [], harness := (true, "e1c2b43f91295344e850f2c17ac148b797d06ffdcae61cd39cac9f2a4067f234"), looks := true }, kinds := [], alts := [], laidByText := true, laidKinds := [.data, .data, .data, .data, .sentinel, .sentinel, .pinned], laidTests := true, laidLooks := .later }
def MoneyFoundCardSaid : Prop := Claim7.holds Tryz.pinned (.plain (OpenSpec.ofChange moneyFoundSpec)) moneyFoundCard

/-- THE TIED CARD OF 'tranchelaw46.TimeweightedBetween'. -/
def timeweightedBetweenCard : Claim7 := { stood := { row := timeweightedBetweenRow, standIns := [], harness := (true, "e1c2b43f91295344e850f2c17ac148b797d06ffdcae61cd39cac9f2a4067f234"), looks := true }, kinds := [], alts := [], laidByText := true, laidKinds := [.data, .data, .data, .data, .sentinel, .sentinel, .pinned], laidTests := true, laidLooks := .later }
def TimeweightedBetweenCardSaid : Prop := Claim7.holds Tryz.pinned (.plain (OpenSpec.ofChange timeweightedBetweenSpec)) timeweightedBetweenCard

/-- THE SECOND FORM's CARD OF 'tranchelaw12.ForwardStrike'. -/
def forwardStrikeUptoCard : Claim7 := { stood := { row := forwardStrikeUptoRow, standIns := [], harness := (true, "e1c2b43f91295344e850f2c17ac148b797d06ffdcae61cd39cac9f2a4067f234"), looks := true }, kinds := [], alts := [], laidByText := true, laidKinds := [.data, .data, .data, .data, .sentinel, .sentinel, .pinned], laidTests := true, laidLooks := .later }
def ForwardStrikeUptoCardSaid : Prop := Claim7.holds Tryz.pinned (.plain (OpenSpec.upto forwardStrikeSpec)) forwardStrikeUptoCard

/-- THE SECOND FORM's CARD OF 'tranchelaw12.ForwardDiscount'. -/
def forwardDiscountUptoCard : Claim7 := { stood := { row := forwardDiscountUptoRow, standIns := [], harness := (true, "e1c2b43f91295344e850f2c17ac148b797d06ffdcae61cd39cac9f2a4067f234"), looks := true }, kinds := [], alts := [], laidByText := true, laidKinds := [.data, .data, .data, .data, .sentinel, .sentinel, .pinned], laidTests := true, laidLooks := .later }
def ForwardDiscountUptoCardSaid : Prop := Claim7.holds Tryz.pinned (.plain (OpenSpec.upto forwardDiscountSpec)) forwardDiscountUptoCard

/-- THE SECOND FORM's CARD OF 'tranchelaw12.ForwardOpposite'. -/
def forwardOppositeUptoCard : Claim7 := { stood := { row := forwardOppositeUptoRow, standIns := [], harness := (true, "e1c2b43f91295344e850f2c17ac148b797d06ffdcae61cd39cac9f2a4067f234"), looks := true }, kinds := [], alts := [], laidByText := true, laidKinds := [.data, .data, .data, .data, .sentinel, .sentinel, .pinned], laidTests := true, laidLooks := .later }
def ForwardOppositeUptoCardSaid : Prop := Claim7.holds Tryz.pinned (.plain (OpenSpec.upto forwardOppositeSpec)) forwardOppositeUptoCard

/-- THE SECOND FORM's CARD OF 'tranchelaw12.ForwardRates'. -/
def forwardRatesUptoCard : Claim7 := { stood := { row := forwardRatesUptoRow, standIns := [], harness := (true, "e1c2b43f91295344e850f2c17ac148b797d06ffdcae61cd39cac9f2a4067f234"), looks := true }, kinds := [], alts := [], laidByText := true, laidKinds := [.data, .data, .data, .data, .sentinel, .sentinel, .pinned], laidTests := true, laidLooks := .later }
def ForwardRatesUptoCardSaid : Prop := Claim7.holds Tryz.pinned (.plain (OpenSpec.upto forwardRatesSpec)) forwardRatesUptoCard

/-- THE SECOND FORM's CARD OF 'tranchelaw12.ForwardInverse'. -/
def forwardInverseUptoCard : Claim7 := { stood := { row := forwardInverseUptoRow, standIns := [], harness := (true, "e1c2b43f91295344e850f2c17ac148b797d06ffdcae61cd39cac9f2a4067f234"), looks := true }, kinds := [], alts := [], laidByText := true, laidKinds := [.data, .data, .data, .data, .sentinel, .sentinel, .pinned], laidTests := true, laidLooks := .later }
def ForwardInverseUptoCardSaid : Prop := Claim7.holds Tryz.pinned (.plain (OpenSpec.upto forwardInverseSpec)) forwardInverseUptoCard

/-- THE SECOND FORM's CARD OF 'tranchelaw12.ForwardValues'. -/
def forwardValuesUptoCard : Claim7 := { stood := { row := forwardValuesUptoRow, standIns := [], harness := (true, "e1c2b43f91295344e850f2c17ac148b797d06ffdcae61cd39cac9f2a4067f234"), looks := true }, kinds := [], alts := [], laidByText := true, laidKinds := [.data, .data, .data, .data, .sentinel, .sentinel, .pinned], laidTests := true, laidLooks := .later }
def ForwardValuesUptoCardSaid : Prop := Claim7.holds Tryz.pinned (.plain (OpenSpec.upto forwardValuesSpec)) forwardValuesUptoCard

/-- THE SECOND FORM's CARD OF 'tranchelaw12.ForwardSettled'. -/
def forwardSettledUptoCard : Claim7 := { stood := { row := forwardSettledUptoRow, standIns := [], harness := (true, "e1c2b43f91295344e850f2c17ac148b797d06ffdcae61cd39cac9f2a4067f234"), looks := true }, kinds := [], alts := [], laidByText := true, laidKinds := [.data, .data, .data, .data, .sentinel, .sentinel, .pinned], laidTests := true, laidLooks := .later }
def ForwardSettledUptoCardSaid : Prop := Claim7.holds Tryz.pinned (.plain (OpenSpec.upto forwardSettledSpec)) forwardSettledUptoCard

/-- THE SECOND FORM's CARD OF 'tranchelaw12.ForwardEven'. -/
def forwardEvenUptoCard : Claim7 := { stood := { row := forwardEvenUptoRow, standIns := [], harness := (true, "e1c2b43f91295344e850f2c17ac148b797d06ffdcae61cd39cac9f2a4067f234"), looks := true }, kinds := [], alts := [], laidByText := true, laidKinds := [.data, .data, .data, .data, .sentinel, .sentinel, .pinned], laidTests := true, laidLooks := .later }
def ForwardEvenUptoCardSaid : Prop := Claim7.holds Tryz.pinned (.plain (OpenSpec.upto forwardEvenSpec)) forwardEvenUptoCard

/-- THE SECOND FORM's CARD OF 'tranchelaw05.MoneyTables'. -/
def moneyTablesUptoCard : Claim7 := { stood := { row := moneyTablesUptoRow, standIns := [], harness := (true, "e1c2b43f91295344e850f2c17ac148b797d06ffdcae61cd39cac9f2a4067f234"), looks := true }, kinds := [], alts := [], laidByText := true, laidKinds := [.data, .data, .data, .data, .sentinel, .sentinel, .pinned], laidTests := true, laidLooks := .later }
def MoneyTablesUptoCardSaid : Prop := Claim7.holds Tryz.pinned (.plain (OpenSpec.upto moneyTablesSpec)) moneyTablesUptoCard

/-- THE SECOND FORM's CARD OF 'tranchelaw05.MoneyFound'. -/
def moneyFoundUptoCard : Claim7 := { stood := { row := moneyFoundUptoRow, standIns := [], harness := (true, "e1c2b43f91295344e850f2c17ac148b797d06ffdcae61cd39cac9f2a4067f234"), looks := true }, kinds := [], alts := [], laidByText := true, laidKinds := [.data, .data, .data, .data, .sentinel, .sentinel, .pinned], laidTests := true, laidLooks := .later }
def MoneyFoundUptoCardSaid : Prop := Claim7.holds Tryz.pinned (.plain (OpenSpec.upto moneyFoundSpec)) moneyFoundUptoCard

/-- THE SECOND FORM's CARD OF 'tranchelaw46.TimeweightedBetween'. -/
def timeweightedBetweenUptoCard : Claim7 := { stood := { row := timeweightedBetweenUptoRow, standIns := [], harness := (true, "e1c2b43f91295344e850f2c17ac148b797d06ffdcae61cd39cac9f2a4067f234"), looks := true }, kinds := [], alts := [], laidByText := true, laidKinds := [.data, .data, .data, .data, .sentinel, .sentinel, .pinned], laidTests := true, laidLooks := .later }
def TimeweightedBetweenUptoCardSaid : Prop := Claim7.holds Tryz.pinned (.plain (OpenSpec.upto timeweightedBetweenSpec)) timeweightedBetweenUptoCard
end Rows
end Go.Proofs.YtgnppdkeiihlfaaGreatDoor
