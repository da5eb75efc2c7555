/-
  DERIVED. GIVEN WITH THE SEED: THE CARDS: each row of YtdjjlbfleibhjaaGreatDoorRows.lean that lists a variable, with what it lists TIED to the program's text (the seventh form; the later family's looks); each row that meets fmt, with fmt's text TOLD by the authors' own Lean function (tested against real Go, not proved from fmt's source: count such statements apart). THE CARD IS WHAT COUNTS. Prove the row's statement (the work); the ties are given (YtdjjlbfleibhjaaGreatDoorTie.lean); close each card by the builder's one call (the guide's Derived/Test/ToyasCard.lean, 'card_holds'). Laid BY PROGRAM, IN A SANDBOX (cutbox-door.mjs). By AI agents, Wed Nov 11 2026. No macro, syntax, notation, axiom, sorry.
-/
import Derived.Test.YtdjjlbfleibhjaaGreatDoorRows
import GoSem.ClaimSeven
namespace Go.Proofs.YtdjjlbfleibhjaaGreatDoor
namespace Rows

/-- THE TIED CARD OF 'tranchelaw05.MoneyReads'. -/
def moneyReadsCard : Claim7 := { stood := { row := moneyReadsRow, standIns := [], harness := (true, "f8868c3120a5b3cce79573259fda41baff370fdb55a74d980b605fcc2bfae116"), looks := true }, kinds := [], alts := [], laidByText := true, laidKinds := [.data, .data, .data, .data, .sentinel, .sentinel, .pinned], laidTests := true, laidLooks := .later }
def MoneyReadsCardSaid : Prop := Claim7.holds Tryz.pinned (.plain (OpenSpec.ofChange moneyReadsSpec)) moneyReadsCard

/-- THE TIED CARD OF 'tranchelaw05.MoneySums'. -/
def moneySumsCard : Claim7 := { stood := { row := moneySumsRow, standIns := [], harness := (true, "f8868c3120a5b3cce79573259fda41baff370fdb55a74d980b605fcc2bfae116"), looks := true }, kinds := [], alts := [], laidByText := true, laidKinds := [.data, .data, .data, .data, .sentinel, .sentinel, .pinned], laidTests := true, laidLooks := .later }
def MoneySumsCardSaid : Prop := Claim7.holds Tryz.pinned (.plain (OpenSpec.ofChange moneySumsSpec)) moneySumsCard

/-- THE TIED CARD OF 'tranchelaw05.MoneyTexts'. -/
def moneyTextsCard : Claim7 := { stood := { row := moneyTextsRow, standIns := [], harness := (true, "f8868c3120a5b3cce79573259fda41baff370fdb55a74d980b605fcc2bfae116"), looks := true }, kinds := [], alts := [], laidByText := true, laidKinds := [.data, .data, .data, .data, .sentinel, .sentinel, .pinned], laidTests := true, laidLooks := .later }
def MoneyTextsCardSaid : Prop := Claim7.holds Tryz.pinned (.plain (OpenSpec.ofChange moneyTextsSpec)) moneyTextsCard

/-- THE TIED CARD OF 'tranchelaw05.MoneyGroup'. -/
def moneyGroupCard : Claim7 := { stood := { row := moneyGroupRow, standIns := [], harness := (true, "f8868c3120a5b3cce79573259fda41baff370fdb55a74d980b605fcc2bfae116"), looks := true }, kinds := [], alts := [], laidByText := true, laidKinds := [.data, .data, .data, .data, .sentinel, .sentinel, .pinned], laidTests := true, laidLooks := .later }
def MoneyGroupCardSaid : Prop := Claim7.holds Tryz.pinned (.plain (OpenSpec.ofChange moneyGroupSpec)) moneyGroupCard

/-- THE TIED CARD OF 'tranchelaw05.MoneyPuts'. -/
def moneyPutsCard : Claim7 := { stood := { row := moneyPutsRow, standIns := [], harness := (true, "f8868c3120a5b3cce79573259fda41baff370fdb55a74d980b605fcc2bfae116"), looks := true }, kinds := [], alts := [], laidByText := true, laidKinds := [.data, .data, .data, .data, .sentinel, .sentinel, .pinned], laidTests := true, laidLooks := .later }
def MoneyPutsCardSaid : Prop := Claim7.holds Tryz.pinned (.plain (OpenSpec.ofChange moneyPutsSpec)) moneyPutsCard

/-- THE TIED CARD OF 'tranchelaw05.MoneyBags'. -/
def moneyBagsCard : Claim7 := { stood := { row := moneyBagsRow, standIns := [], harness := (true, "f8868c3120a5b3cce79573259fda41baff370fdb55a74d980b605fcc2bfae116"), looks := true }, kinds := [], alts := [], laidByText := true, laidKinds := [.data, .data, .data, .data, .sentinel, .sentinel, .pinned], laidTests := true, laidLooks := .later }
def MoneyBagsCardSaid : Prop := Claim7.holds Tryz.pinned (.plain (OpenSpec.ofChange moneyBagsSpec)) moneyBagsCard

/-- THE TIED CARD OF 'tranchelaw05.MoneyAmounts'. -/
def moneyAmountsCard : Claim7 := { stood := { row := moneyAmountsRow, standIns := [], harness := (true, "f8868c3120a5b3cce79573259fda41baff370fdb55a74d980b605fcc2bfae116"), looks := true }, kinds := [], alts := [], laidByText := true, laidKinds := [.data, .data, .data, .data, .sentinel, .sentinel, .pinned], laidTests := true, laidLooks := .later }
def MoneyAmountsCardSaid : Prop := Claim7.holds Tryz.pinned (.plain (OpenSpec.ofChange moneyAmountsSpec)) moneyAmountsCard

/-- THE TIED CARD OF 'tranchelaw12.ForwardStrike'. -/
def forwardStrikeCard : Claim7 := { stood := { row := forwardStrikeRow, standIns := [], harness := (true, "f8868c3120a5b3cce79573259fda41baff370fdb55a74d980b605fcc2bfae116"), looks := true }, kinds := [], alts := [], laidByText := true, laidKinds := [.data, .data, .data, .data, .sentinel, .sentinel, .pinned], laidTests := true, laidLooks := .later }
def ForwardStrikeCardSaid : Prop := Claim7.holds Tryz.pinned (.plain (OpenSpec.ofChange forwardStrikeSpec)) forwardStrikeCard

/-- THE TIED CARD OF 'tranchelaw12.ForwardDiscount'. -/
def forwardDiscountCard : Claim7 := { stood := { row := forwardDiscountRow, standIns := [], harness := (true, "f8868c3120a5b3cce79573259fda41baff370fdb55a74d980b605fcc2bfae116"), looks := true }, kinds := [], alts := [], laidByText := true, laidKinds := [.data, .data, .data, .data, .sentinel, .sentinel, .pinned], laidTests := true, laidLooks := .later }
def ForwardDiscountCardSaid : Prop := Claim7.holds Tryz.pinned (.plain (OpenSpec.ofChange forwardDiscountSpec)) forwardDiscountCard

/-- THE TIED CARD OF 'tranchelaw12.ForwardOpposite'. -/
def forwardOppositeCard : Claim7 := { stood := { row := forwardOppositeRow, standIns := [], harness := (true, "f8868c3120a5b3cce79573259fda41baff370fdb55a74d980b605fcc2bfae116"), looks := true }, kinds := [], alts := [], laidByText := true, laidKinds := [.data, .data, .data, .data, .sentinel, .sentinel, .pinned], laidTests := true, laidLooks := .later }
def ForwardOppositeCardSaid : Prop := Claim7.holds Tryz.pinned (.plain (OpenSpec.ofChange forwardOppositeSpec)) forwardOppositeCard

/-- THE TIED CARD OF 'tranchelaw12.ForwardRates'. -/
def forwardRatesCard : Claim7 := { stood := { row := forwardRatesRow, standIns := [], harness := (true, "f8868c3120a5b3cce79573259fda41baff370fdb55a74d980b605fcc2bfae116"), looks := true }, kinds := [], alts := [], laidByText := true, laidKinds := [.data, .data, .data, .data, .sentinel, .sentinel, .pinned], laidTests := true, laidLooks := .later }
def ForwardRatesCardSaid : Prop := Claim7.holds Tryz.pinned (.plain (OpenSpec.ofChange forwardRatesSpec)) forwardRatesCard

/-- THE TIED CARD OF 'tranchelaw12.ForwardInverse'. -/
def forwardInverseCard : Claim7 := { stood := { row := forwardInverseRow, standIns := [], harness := (true, "f8868c3120a5b3cce79573259fda41baff370fdb55a74d980b605fcc2bfae116"), looks := true }, kinds := [], alts := [], laidByText := true, laidKinds := [.data, .data, .data, .data, .sentinel, .sentinel, .pinned], laidTests := true, laidLooks := .later }
def ForwardInverseCardSaid : Prop := Claim7.holds Tryz.pinned (.plain (OpenSpec.ofChange forwardInverseSpec)) forwardInverseCard

/-- THE TIED CARD OF 'tranchelaw12.ForwardValues'. -/
def forwardValuesCard : Claim7 := { stood := { row := forwardValuesRow, standIns := [], harness := (true, "f8868c3120a5b3cce79573259fda41baff370fdb55a74d980b605fcc2bfae116"), looks := true }, kinds := [], alts := [], laidByText := true, laidKinds := [.data, .data, .data, .data, .sentinel, .sentinel, .pinned], laidTests := true, laidLooks := .later }
def ForwardValuesCardSaid : Prop := Claim7.holds Tryz.pinned (.plain (OpenSpec.ofChange forwardValuesSpec)) forwardValuesCard

/-- THE TIED CARD OF 'tranchelaw12.ForwardSettled'. -/
def forwardSettledCard : Claim7 := { stood := { row := forwardSettledRow, standIns := [], harness := (true, "f8868c3120a5b3cce79573259fda41baff370fdb55a74d980b605fcc2bfae116"), looks := true }, kinds := [], alts := [], laidByText := true, laidKinds := [.data, .data, .data, .data, .sentinel, .sentinel, .pinned], laidTests := true, laidLooks := .later }
def ForwardSettledCardSaid : Prop := Claim7.holds Tryz.pinned (.plain (OpenSpec.ofChange forwardSettledSpec)) forwardSettledCard

/-- THE TIED CARD OF 'tranchelaw12.ForwardEven'. -/
def forwardEvenCard : Claim7 := { stood := { row := forwardEvenRow, standIns := [], harness := (true, "f8868c3120a5b3cce79573259fda41baff370fdb55a74d980b605fcc2bfae116"), looks := true }, kinds := [], alts := [], laidByText := true, laidKinds := [.data, .data, .data, .data, .sentinel, .sentinel, .pinned], laidTests := true, laidLooks := .later }
def ForwardEvenCardSaid : Prop := Claim7.holds Tryz.pinned (.plain (OpenSpec.ofChange forwardEvenSpec)) forwardEvenCard

/-- THE SECOND FORM's CARD OF 'tranchelaw05.MoneyReads'. -/
def moneyReadsUptoCard : Claim7 := { stood := { row := moneyReadsUptoRow, standIns := [], harness := (true, "f8868c3120a5b3cce79573259fda41baff370fdb55a74d980b605fcc2bfae116"), looks := true }, kinds := [], alts := [], laidByText := true, laidKinds := [.data, .data, .data, .data, .sentinel, .sentinel, .pinned], laidTests := true, laidLooks := .later }
def MoneyReadsUptoCardSaid : Prop := Claim7.holds Tryz.pinned (.plain (OpenSpec.upto moneyReadsSpec)) moneyReadsUptoCard

/-- THE SECOND FORM's CARD OF 'tranchelaw05.MoneySums'. -/
def moneySumsUptoCard : Claim7 := { stood := { row := moneySumsUptoRow, standIns := [], harness := (true, "f8868c3120a5b3cce79573259fda41baff370fdb55a74d980b605fcc2bfae116"), looks := true }, kinds := [], alts := [], laidByText := true, laidKinds := [.data, .data, .data, .data, .sentinel, .sentinel, .pinned], laidTests := true, laidLooks := .later }
def MoneySumsUptoCardSaid : Prop := Claim7.holds Tryz.pinned (.plain (OpenSpec.upto moneySumsSpec)) moneySumsUptoCard

/-- THE SECOND FORM's CARD OF 'tranchelaw05.MoneyTexts'. -/
def moneyTextsUptoCard : Claim7 := { stood := { row := moneyTextsUptoRow, standIns := [], harness := (true, "f8868c3120a5b3cce79573259fda41baff370fdb55a74d980b605fcc2bfae116"), looks := true }, kinds := [], alts := [], laidByText := true, laidKinds := [.data, .data, .data, .data, .sentinel, .sentinel, .pinned], laidTests := true, laidLooks := .later }
def MoneyTextsUptoCardSaid : Prop := Claim7.holds Tryz.pinned (.plain (OpenSpec.upto moneyTextsSpec)) moneyTextsUptoCard

/-- THE SECOND FORM's CARD OF 'tranchelaw05.MoneyGroup'. -/
def moneyGroupUptoCard : Claim7 := { stood := { row := moneyGroupUptoRow, standIns := [], harness := (true, "f8868c3120a5b3cce79573259fda41baff370fdb55a74d980b605fcc2bfae116"), looks := true }, kinds := [], alts := [], laidByText := true, laidKinds := [.data, .data, .data, .data, .sentinel, .sentinel, .pinned], laidTests := true, laidLooks := .later }
def MoneyGroupUptoCardSaid : Prop := Claim7.holds Tryz.pinned (.plain (OpenSpec.upto moneyGroupSpec)) moneyGroupUptoCard

/-- THE SECOND FORM's CARD OF 'tranchelaw05.MoneyPuts'. -/
def moneyPutsUptoCard : Claim7 := { stood := { row := moneyPutsUptoRow, standIns := [], harness := (true, "f8868c3120a5b3cce79573259fda41baff370fdb55a74d980b605fcc2bfae116"), looks := true }, kinds := [], alts := [], laidByText := true, laidKinds := [.data, .data, .data, .data, .sentinel, .sentinel, .pinned], laidTests := true, laidLooks := .later }
def MoneyPutsUptoCardSaid : Prop := Claim7.holds Tryz.pinned (.plain (OpenSpec.upto moneyPutsSpec)) moneyPutsUptoCard

/-- THE SECOND FORM's CARD OF 'tranchelaw05.MoneyBags'. -/
def moneyBagsUptoCard : Claim7 := { stood := { row := moneyBagsUptoRow, standIns := [], harness := (true, "f8868c3120a5b3cce79573259fda41baff370fdb55a74d980b605fcc2bfae116"), looks := true }, kinds := [], alts := [], laidByText := true, laidKinds := [.data, .data, .data, .data, .sentinel, .sentinel, .pinned], laidTests := true, laidLooks := .later }
def MoneyBagsUptoCardSaid : Prop := Claim7.holds Tryz.pinned (.plain (OpenSpec.upto moneyBagsSpec)) moneyBagsUptoCard

/-- THE SECOND FORM's CARD OF 'tranchelaw05.MoneyAmounts'. -/
def moneyAmountsUptoCard : Claim7 := { stood := { row := moneyAmountsUptoRow, standIns := [], harness := (true, "f8868c3120a5b3cce79573259fda41baff370fdb55a74d980b605fcc2bfae116"), looks := true }, kinds := [], alts := [], laidByText := true, laidKinds := [.data, .data, .data, .data, .sentinel, .sentinel, .pinned], laidTests := true, laidLooks := .later }
def MoneyAmountsUptoCardSaid : Prop := Claim7.holds Tryz.pinned (.plain (OpenSpec.upto moneyAmountsSpec)) moneyAmountsUptoCard

/-- THE SECOND FORM's CARD OF 'tranchelaw12.ForwardStrike'. -/
def forwardStrikeUptoCard : Claim7 := { stood := { row := forwardStrikeUptoRow, standIns := [], harness := (true, "f8868c3120a5b3cce79573259fda41baff370fdb55a74d980b605fcc2bfae116"), looks := true }, kinds := [], alts := [], laidByText := true, laidKinds := [.data, .data, .data, .data, .sentinel, .sentinel, .pinned], laidTests := true, laidLooks := .later }
def ForwardStrikeUptoCardSaid : Prop := Claim7.holds Tryz.pinned (.plain (OpenSpec.upto forwardStrikeSpec)) forwardStrikeUptoCard

/-- THE SECOND FORM's CARD OF 'tranchelaw12.ForwardDiscount'. -/
def forwardDiscountUptoCard : Claim7 := { stood := { row := forwardDiscountUptoRow, standIns := [], harness := (true, "f8868c3120a5b3cce79573259fda41baff370fdb55a74d980b605fcc2bfae116"), looks := true }, kinds := [], alts := [], laidByText := true, laidKinds := [.data, .data, .data, .data, .sentinel, .sentinel, .pinned], laidTests := true, laidLooks := .later }
def ForwardDiscountUptoCardSaid : Prop := Claim7.holds Tryz.pinned (.plain (OpenSpec.upto forwardDiscountSpec)) forwardDiscountUptoCard

/-- THE SECOND FORM's CARD OF 'tranchelaw12.ForwardOpposite'. -/
def forwardOppositeUptoCard : Claim7 := { stood := { row := forwardOppositeUptoRow, standIns := [], harness := (true, "f8868c3120a5b3cce79573259fda41baff370fdb55a74d980b605fcc2bfae116"), looks := true }, kinds := [], alts := [], laidByText := true, laidKinds := [.data, .data, .data, .data, .sentinel, .sentinel, .pinned], laidTests := true, laidLooks := .later }
def ForwardOppositeUptoCardSaid : Prop := Claim7.holds Tryz.pinned (.plain (OpenSpec.upto forwardOppositeSpec)) forwardOppositeUptoCard

/-- THE SECOND FORM's CARD OF 'tranchelaw12.ForwardRates'. -/
def forwardRatesUptoCard : Claim7 := { stood := { row := forwardRatesUptoRow, standIns := [], harness := (true, "f8868c3120a5b3cce79573259fda41baff370fdb55a74d980b605fcc2bfae116"), looks := true }, kinds := [], alts := [], laidByText := true, laidKinds := [.data, .data, .data, .data, .sentinel, .sentinel, .pinned], laidTests := true, laidLooks := .later }
def ForwardRatesUptoCardSaid : Prop := Claim7.holds Tryz.pinned (.plain (OpenSpec.upto forwardRatesSpec)) forwardRatesUptoCard

/-- THE SECOND FORM's CARD OF 'tranchelaw12.ForwardInverse'. -/
def forwardInverseUptoCard : Claim7 := { stood := { row := forwardInverseUptoRow, standIns := [], harness := (true, "f8868c3120a5b3cce79573259fda41baff370fdb55a74d980b605fcc2bfae116"), looks := true }, kinds := [], alts := [], laidByText := true, laidKinds := [.data, .data, .data, .data, .sentinel, .sentinel, .pinned], laidTests := true, laidLooks := .later }
def ForwardInverseUptoCardSaid : Prop := Claim7.holds Tryz.pinned (.plain (OpenSpec.upto forwardInverseSpec)) forwardInverseUptoCard

/-- THE SECOND FORM's CARD OF 'tranchelaw12.ForwardValues'. -/
def forwardValuesUptoCard : Claim7 := { stood := { row := forwardValuesUptoRow, standIns := [], harness := (true, "f8868c3120a5b3cce79573259fda41baff370fdb55a74d980b605fcc2bfae116"), looks := true }, kinds := [], alts := [], laidByText := true, laidKinds := [.data, .data, .data, .data, .sentinel, .sentinel, .pinned], laidTests := true, laidLooks := .later }
def ForwardValuesUptoCardSaid : Prop := Claim7.holds Tryz.pinned (.plain (OpenSpec.upto forwardValuesSpec)) forwardValuesUptoCard

/-- THE SECOND FORM's CARD OF 'tranchelaw12.ForwardSettled'. -/
def forwardSettledUptoCard : Claim7 := { stood := { row := forwardSettledUptoRow, standIns := [], harness := (true, "f8868c3120a5b3cce79573259fda41baff370fdb55a74d980b605fcc2bfae116"), looks := true }, kinds := [], alts := [], laidByText := true, laidKinds := [.data, .data, .data, .data, .sentinel, .sentinel, .pinned], laidTests := true, laidLooks := .later }
def ForwardSettledUptoCardSaid : Prop := Claim7.holds Tryz.pinned (.plain (OpenSpec.upto forwardSettledSpec)) forwardSettledUptoCard

/-- THE SECOND FORM's CARD OF 'tranchelaw12.ForwardEven'. -/
def forwardEvenUptoCard : Claim7 := { stood := { row := forwardEvenUptoRow, standIns := [], harness := (true, "f8868c3120a5b3cce79573259fda41baff370fdb55a74d980b605fcc2bfae116"), looks := true }, kinds := [], alts := [], laidByText := true, laidKinds := [.data, .data, .data, .data, .sentinel, .sentinel, .pinned], laidTests := true, laidLooks := .later }
def ForwardEvenUptoCardSaid : Prop := Claim7.holds Tryz.pinned (.plain (OpenSpec.upto forwardEvenSpec)) forwardEvenUptoCard
end Rows
end Go.Proofs.YtdjjlbfleibhjaaGreatDoor
