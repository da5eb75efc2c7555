/-
  DERIVED. GIVEN WITH THE SEED: THE CARDS: each row of YtjhafnnfkaejgaaGreatDoorRows.lean that lists a variable, with what it lists TIED to the program's text (the seventh form; the later family's looks); each row that meets fmt, with fmt's text TOLD by the authors' own Lean function (tested against real Go, not proved from fmt's source: count such statements apart). THE CARD IS WHAT COUNTS. Prove the row's statement (the work); the ties are given (YtjhafnnfkaejgaaGreatDoorTie.lean); close each card by the builder's one call (the guide's Derived/Test/ToyasCard.lean, 'card_holds'). Laid BY PROGRAM, IN A SANDBOX (cutbox-door.mjs). By AI agents, Wed Nov 11 2026. No macro, syntax, notation, axiom, sorry.
-/
import Derived.Test.YtjhafnnfkaejgaaGreatDoorRows
import GoSem.ClaimSeven
namespace Go.Proofs.YtjhafnnfkaejgaaGreatDoor
namespace Rows

/-- THE TIED CARD OF 'tranchelaw02.FractionReads'. -/
def fractionReadsCard : Claim7 := { stood := { row := fractionReadsRow, standIns := [], harness := (true, "79dc3beab47943c8d010ed6a991bd352f24017cd7450ee6e1950e8b81509e1b7"), looks := true }, kinds := [], alts := [], laidByText := true, laidKinds := [.data, .data, .data, .data, .sentinel, .sentinel, .pinned], laidTests := true, laidLooks := .later }
def FractionReadsCardSaid : Prop := Claim7.holds Tryz.pinned (.plain (OpenSpec.ofChange fractionReadsSpec)) fractionReadsCard

/-- THE TIED CARD OF 'tranchelaw02.FractionOrder'. -/
def fractionOrderCard : Claim7 := { stood := { row := fractionOrderRow, standIns := [], harness := (true, "79dc3beab47943c8d010ed6a991bd352f24017cd7450ee6e1950e8b81509e1b7"), looks := true }, kinds := [], alts := [], laidByText := true, laidKinds := [.data, .data, .data, .data, .sentinel, .sentinel, .pinned], laidTests := true, laidLooks := .later }
def FractionOrderCardSaid : Prop := Claim7.holds Tryz.pinned (.plain (OpenSpec.ofChange fractionOrderSpec)) fractionOrderCard

/-- THE TIED CARD OF 'tranchelaw02.FractionPowers'. -/
def fractionPowersCard : Claim7 := { stood := { row := fractionPowersRow, standIns := [], harness := (true, "79dc3beab47943c8d010ed6a991bd352f24017cd7450ee6e1950e8b81509e1b7"), looks := true }, kinds := [], alts := [], laidByText := true, laidKinds := [.data, .data, .data, .data, .sentinel, .sentinel, .pinned], laidTests := true, laidLooks := .later }
def FractionPowersCardSaid : Prop := Claim7.holds Tryz.pinned (.plain (OpenSpec.ofChange fractionPowersSpec)) fractionPowersCard

/-- THE TIED CARD OF 'tranchelaw02.FractionArithmetic'. -/
def fractionArithmeticCard : Claim7 := { stood := { row := fractionArithmeticRow, standIns := [], harness := (true, "79dc3beab47943c8d010ed6a991bd352f24017cd7450ee6e1950e8b81509e1b7"), looks := true }, kinds := [], alts := [], laidByText := true, laidKinds := [.data, .data, .data, .data, .sentinel, .sentinel, .pinned], laidTests := true, laidLooks := .later }
def FractionArithmeticCardSaid : Prop := Claim7.holds Tryz.pinned (.plain (OpenSpec.ofChange fractionArithmeticSpec)) fractionArithmeticCard

/-- THE TIED CARD OF 'tranchelaw02.FractionFloor'. -/
def fractionFloorCard : Claim7 := { stood := { row := fractionFloorRow, standIns := [], harness := (true, "79dc3beab47943c8d010ed6a991bd352f24017cd7450ee6e1950e8b81509e1b7"), looks := true }, kinds := [], alts := [], laidByText := true, laidKinds := [.data, .data, .data, .data, .sentinel, .sentinel, .pinned], laidTests := true, laidLooks := .later }
def FractionFloorCardSaid : Prop := Claim7.holds Tryz.pinned (.plain (OpenSpec.ofChange fractionFloorSpec)) fractionFloorCard

/-- THE TIED CARD OF 'tranchelaw02.FractionField'. -/
def fractionFieldCard : Claim7 := { stood := { row := fractionFieldRow, standIns := [], harness := (true, "79dc3beab47943c8d010ed6a991bd352f24017cd7450ee6e1950e8b81509e1b7"), looks := true }, kinds := [], alts := [], laidByText := true, laidKinds := [.data, .data, .data, .data, .sentinel, .sentinel, .pinned], laidTests := true, laidLooks := .later }
def FractionFieldCardSaid : Prop := Claim7.holds Tryz.pinned (.plain (OpenSpec.ofChange fractionFieldSpec)) fractionFieldCard

/-- THE TIED CARD OF 'tranchelaw02.FractionCanonical'. -/
def fractionCanonicalCard : Claim7 := { stood := { row := fractionCanonicalRow, standIns := [], harness := (true, "79dc3beab47943c8d010ed6a991bd352f24017cd7450ee6e1950e8b81509e1b7"), looks := true }, kinds := [], alts := [], laidByText := true, laidKinds := [.data, .data, .data, .data, .sentinel, .sentinel, .pinned], laidTests := true, laidLooks := .later }
def FractionCanonicalCardSaid : Prop := Claim7.holds Tryz.pinned (.plain (OpenSpec.ofChange fractionCanonicalSpec)) fractionCanonicalCard

/-- THE TIED CARD OF 'tranchelaw02.FractionTexts'. -/
def fractionTextsCard : Claim7 := { stood := { row := fractionTextsRow, standIns := [], harness := (true, "79dc3beab47943c8d010ed6a991bd352f24017cd7450ee6e1950e8b81509e1b7"), looks := true }, kinds := [], alts := [], laidByText := true, laidKinds := [.data, .data, .data, .data, .sentinel, .sentinel, .pinned], laidTests := true, laidLooks := .later }
def FractionTextsCardSaid : Prop := Claim7.holds Tryz.pinned (.plain (OpenSpec.ofChange fractionTextsSpec)) fractionTextsCard

/-- THE TIED CARD OF 'tranchelaw02.FractionRoundTrip'. -/
def fractionRoundTripCard : Claim7 := { stood := { row := fractionRoundTripRow, standIns := [], harness := (true, "79dc3beab47943c8d010ed6a991bd352f24017cd7450ee6e1950e8b81509e1b7"), looks := true }, kinds := [], alts := [], laidByText := true, laidKinds := [.data, .data, .data, .data, .sentinel, .sentinel, .pinned], laidTests := true, laidLooks := .later }
def FractionRoundTripCardSaid : Prop := Claim7.holds Tryz.pinned (.plain (OpenSpec.ofChange fractionRoundTripSpec)) fractionRoundTripCard

/-- THE SECOND FORM's CARD OF 'tranchelaw02.FractionReads'. -/
def fractionReadsUptoCard : Claim7 := { stood := { row := fractionReadsUptoRow, standIns := [], harness := (true, "79dc3beab47943c8d010ed6a991bd352f24017cd7450ee6e1950e8b81509e1b7"), looks := true }, kinds := [], alts := [], laidByText := true, laidKinds := [.data, .data, .data, .data, .sentinel, .sentinel, .pinned], laidTests := true, laidLooks := .later }
def FractionReadsUptoCardSaid : Prop := Claim7.holds Tryz.pinned (.plain (OpenSpec.upto fractionReadsSpec)) fractionReadsUptoCard

/-- THE SECOND FORM's CARD OF 'tranchelaw02.FractionOrder'. -/
def fractionOrderUptoCard : Claim7 := { stood := { row := fractionOrderUptoRow, standIns := [], harness := (true, "79dc3beab47943c8d010ed6a991bd352f24017cd7450ee6e1950e8b81509e1b7"), looks := true }, kinds := [], alts := [], laidByText := true, laidKinds := [.data, .data, .data, .data, .sentinel, .sentinel, .pinned], laidTests := true, laidLooks := .later }
def FractionOrderUptoCardSaid : Prop := Claim7.holds Tryz.pinned (.plain (OpenSpec.upto fractionOrderSpec)) fractionOrderUptoCard

/-- THE SECOND FORM's CARD OF 'tranchelaw02.FractionPowers'. -/
def fractionPowersUptoCard : Claim7 := { stood := { row := fractionPowersUptoRow, standIns := [], harness := (true, "79dc3beab47943c8d010ed6a991bd352f24017cd7450ee6e1950e8b81509e1b7"), looks := true }, kinds := [], alts := [], laidByText := true, laidKinds := [.data, .data, .data, .data, .sentinel, .sentinel, .pinned], laidTests := true, laidLooks := .later }
def FractionPowersUptoCardSaid : Prop := Claim7.holds Tryz.pinned (.plain (OpenSpec.upto fractionPowersSpec)) fractionPowersUptoCard

/-- THE SECOND FORM's CARD OF 'tranchelaw02.FractionArithmetic'. -/
def fractionArithmeticUptoCard : Claim7 := { stood := { row := fractionArithmeticUptoRow, standIns := [], harness := (true, "79dc3beab47943c8d010ed6a991bd352f24017cd7450ee6e1950e8b81509e1b7"), looks := true }, kinds := [], alts := [], laidByText := true, laidKinds := [.data, .data, .data, .data, .sentinel, .sentinel, .pinned], laidTests := true, laidLooks := .later }
def FractionArithmeticUptoCardSaid : Prop := Claim7.holds Tryz.pinned (.plain (OpenSpec.upto fractionArithmeticSpec)) fractionArithmeticUptoCard

/-- THE SECOND FORM's CARD OF 'tranchelaw02.FractionFloor'. -/
def fractionFloorUptoCard : Claim7 := { stood := { row := fractionFloorUptoRow, standIns := [], harness := (true, "79dc3beab47943c8d010ed6a991bd352f24017cd7450ee6e1950e8b81509e1b7"), looks := true }, kinds := [], alts := [], laidByText := true, laidKinds := [.data, .data, .data, .data, .sentinel, .sentinel, .pinned], laidTests := true, laidLooks := .later }
def FractionFloorUptoCardSaid : Prop := Claim7.holds Tryz.pinned (.plain (OpenSpec.upto fractionFloorSpec)) fractionFloorUptoCard

/-- THE SECOND FORM's CARD OF 'tranchelaw02.FractionField'. -/
def fractionFieldUptoCard : Claim7 := { stood := { row := fractionFieldUptoRow, standIns := [], harness := (true, "79dc3beab47943c8d010ed6a991bd352f24017cd7450ee6e1950e8b81509e1b7"), looks := true }, kinds := [], alts := [], laidByText := true, laidKinds := [.data, .data, .data, .data, .sentinel, .sentinel, .pinned], laidTests := true, laidLooks := .later }
def FractionFieldUptoCardSaid : Prop := Claim7.holds Tryz.pinned (.plain (OpenSpec.upto fractionFieldSpec)) fractionFieldUptoCard

/-- THE SECOND FORM's CARD OF 'tranchelaw02.FractionCanonical'. -/
def fractionCanonicalUptoCard : Claim7 := { stood := { row := fractionCanonicalUptoRow, standIns := [], harness := (true, "79dc3beab47943c8d010ed6a991bd352f24017cd7450ee6e1950e8b81509e1b7"), looks := true }, kinds := [], alts := [], laidByText := true, laidKinds := [.data, .data, .data, .data, .sentinel, .sentinel, .pinned], laidTests := true, laidLooks := .later }
def FractionCanonicalUptoCardSaid : Prop := Claim7.holds Tryz.pinned (.plain (OpenSpec.upto fractionCanonicalSpec)) fractionCanonicalUptoCard

/-- THE SECOND FORM's CARD OF 'tranchelaw02.FractionTexts'. -/
def fractionTextsUptoCard : Claim7 := { stood := { row := fractionTextsUptoRow, standIns := [], harness := (true, "79dc3beab47943c8d010ed6a991bd352f24017cd7450ee6e1950e8b81509e1b7"), looks := true }, kinds := [], alts := [], laidByText := true, laidKinds := [.data, .data, .data, .data, .sentinel, .sentinel, .pinned], laidTests := true, laidLooks := .later }
def FractionTextsUptoCardSaid : Prop := Claim7.holds Tryz.pinned (.plain (OpenSpec.upto fractionTextsSpec)) fractionTextsUptoCard

/-- THE SECOND FORM's CARD OF 'tranchelaw02.FractionRoundTrip'. -/
def fractionRoundTripUptoCard : Claim7 := { stood := { row := fractionRoundTripUptoRow, standIns := [], harness := (true, "79dc3beab47943c8d010ed6a991bd352f24017cd7450ee6e1950e8b81509e1b7"), looks := true }, kinds := [], alts := [], laidByText := true, laidKinds := [.data, .data, .data, .data, .sentinel, .sentinel, .pinned], laidTests := true, laidLooks := .later }
def FractionRoundTripUptoCardSaid : Prop := Claim7.holds Tryz.pinned (.plain (OpenSpec.upto fractionRoundTripSpec)) fractionRoundTripUptoCard
end Rows
end Go.Proofs.YtjhafnnfkaejgaaGreatDoor
