/-
  DERIVED. GIVEN WITH THE SEED: THE CARDS: each row of YtpieeldbamklkaaGreatDoorRows.lean that lists a variable, with what it lists TIED to the program's text (the seventh form; the later family's looks); each row that meets fmt, with fmt's text TOLD by the authors' own Lean function (tested against real Go, not proved from fmt's source: count such statements apart). THE CARD IS WHAT COUNTS. Prove the row's statement (the work); the ties are given (YtpieeldbamklkaaGreatDoorTie.lean); close each card by the builder's one call (the guide's Derived/Test/ToyasCard.lean, 'card_holds'). Laid BY PROGRAM, IN A SANDBOX (cutbox-door.mjs). By AI agents, Wed Nov 11 2026. No macro, syntax, notation, axiom, sorry.
-/
import Derived.Test.YtpieeldbamklkaaGreatDoorRows
import GoSem.ClaimSeven
namespace Go.Proofs.YtpieeldbamklkaaGreatDoor
namespace Rows

/-- THE TIED CARD OF 'tranchetop.TopUnitReturns'. -/
def topUnitReturnsCard : Claim7 := { stood := { row := topUnitReturnsRow, standIns := [], harness := (true, "0e9b0f407077bed2b4f8bb036bfa88267f1bb6a2afbaec115cf1c64c341dac5a"), looks := true }, kinds := [], alts := [], laidByText := true, laidKinds := [.data, .data, .data, .data, .sentinel, .sentinel, .pinned], laidTests := true, laidLooks := .later }
def TopUnitReturnsCardSaid : Prop := Claim7.holds Tryz.pinned (.plain (OpenSpec.ofChange topUnitReturnsSpec)) topUnitReturnsCard

/-- THE TIED CARD OF 'tranchetop.TopPaidOut'. -/
def topPaidOutCard : Claim7 := { stood := { row := topPaidOutRow, standIns := [], harness := (true, "0e9b0f407077bed2b4f8bb036bfa88267f1bb6a2afbaec115cf1c64c341dac5a"), looks := true }, kinds := [], alts := [], laidByText := true, laidKinds := [.data, .data, .data, .data, .sentinel, .sentinel, .pinned], laidTests := true, laidLooks := .later }
def TopPaidOutCardSaid : Prop := Claim7.holds Tryz.pinned (.plain (OpenSpec.ofChange topPaidOutSpec)) topPaidOutCard

/-- THE TIED CARD OF 'tranchetop.TopUndiluted'. -/
def topUndilutedCard : Claim7 := { stood := { row := topUndilutedRow, standIns := [], harness := (true, "0e9b0f407077bed2b4f8bb036bfa88267f1bb6a2afbaec115cf1c64c341dac5a"), looks := true }, kinds := [], alts := [], laidByText := true, laidKinds := [.data, .data, .data, .data, .sentinel, .sentinel, .pinned], laidTests := true, laidLooks := .later }
def TopUndilutedCardSaid : Prop := Claim7.holds Tryz.pinned (.plain (OpenSpec.ofChange topUndilutedSpec)) topUndilutedCard

/-- THE TIED CARD OF 'tranchetop.TopActive'. -/
def topActiveCard : Claim7 := { stood := { row := topActiveRow, standIns := [], harness := (true, "0e9b0f407077bed2b4f8bb036bfa88267f1bb6a2afbaec115cf1c64c341dac5a"), looks := true }, kinds := [], alts := [], laidByText := true, laidKinds := [.data, .data, .data, .data, .sentinel, .sentinel, .pinned], laidTests := true, laidLooks := .later }
def TopActiveCardSaid : Prop := Claim7.holds Tryz.pinned (.plain (OpenSpec.ofChange topActiveSpec)) topActiveCard

/-- THE TIED CARD OF 'tranchetop.TopAllotted'. -/
def topAllottedCard : Claim7 := { stood := { row := topAllottedRow, standIns := [], harness := (true, "0e9b0f407077bed2b4f8bb036bfa88267f1bb6a2afbaec115cf1c64c341dac5a"), looks := true }, kinds := [], alts := [], laidByText := true, laidKinds := [.data, .data, .data, .data, .sentinel, .sentinel, .pinned], laidTests := true, laidLooks := .later }
def TopAllottedCardSaid : Prop := Claim7.holds Tryz.pinned (.plain (OpenSpec.ofChange topAllottedSpec)) topAllottedCard

/-- THE SECOND FORM's CARD OF 'tranchetop.TopUnitReturns'. -/
def topUnitReturnsUptoCard : Claim7 := { stood := { row := topUnitReturnsUptoRow, standIns := [], harness := (true, "0e9b0f407077bed2b4f8bb036bfa88267f1bb6a2afbaec115cf1c64c341dac5a"), looks := true }, kinds := [], alts := [], laidByText := true, laidKinds := [.data, .data, .data, .data, .sentinel, .sentinel, .pinned], laidTests := true, laidLooks := .later }
def TopUnitReturnsUptoCardSaid : Prop := Claim7.holds Tryz.pinned (.plain (OpenSpec.upto topUnitReturnsSpec)) topUnitReturnsUptoCard

/-- THE SECOND FORM's CARD OF 'tranchetop.TopPaidOut'. -/
def topPaidOutUptoCard : Claim7 := { stood := { row := topPaidOutUptoRow, standIns := [], harness := (true, "0e9b0f407077bed2b4f8bb036bfa88267f1bb6a2afbaec115cf1c64c341dac5a"), looks := true }, kinds := [], alts := [], laidByText := true, laidKinds := [.data, .data, .data, .data, .sentinel, .sentinel, .pinned], laidTests := true, laidLooks := .later }
def TopPaidOutUptoCardSaid : Prop := Claim7.holds Tryz.pinned (.plain (OpenSpec.upto topPaidOutSpec)) topPaidOutUptoCard

/-- THE SECOND FORM's CARD OF 'tranchetop.TopUndiluted'. -/
def topUndilutedUptoCard : Claim7 := { stood := { row := topUndilutedUptoRow, standIns := [], harness := (true, "0e9b0f407077bed2b4f8bb036bfa88267f1bb6a2afbaec115cf1c64c341dac5a"), looks := true }, kinds := [], alts := [], laidByText := true, laidKinds := [.data, .data, .data, .data, .sentinel, .sentinel, .pinned], laidTests := true, laidLooks := .later }
def TopUndilutedUptoCardSaid : Prop := Claim7.holds Tryz.pinned (.plain (OpenSpec.upto topUndilutedSpec)) topUndilutedUptoCard

/-- THE SECOND FORM's CARD OF 'tranchetop.TopActive'. -/
def topActiveUptoCard : Claim7 := { stood := { row := topActiveUptoRow, standIns := [], harness := (true, "0e9b0f407077bed2b4f8bb036bfa88267f1bb6a2afbaec115cf1c64c341dac5a"), looks := true }, kinds := [], alts := [], laidByText := true, laidKinds := [.data, .data, .data, .data, .sentinel, .sentinel, .pinned], laidTests := true, laidLooks := .later }
def TopActiveUptoCardSaid : Prop := Claim7.holds Tryz.pinned (.plain (OpenSpec.upto topActiveSpec)) topActiveUptoCard

/-- THE SECOND FORM's CARD OF 'tranchetop.TopAllotted'. -/
def topAllottedUptoCard : Claim7 := { stood := { row := topAllottedUptoRow, standIns := [], harness := (true, "0e9b0f407077bed2b4f8bb036bfa88267f1bb6a2afbaec115cf1c64c341dac5a"), looks := true }, kinds := [], alts := [], laidByText := true, laidKinds := [.data, .data, .data, .data, .sentinel, .sentinel, .pinned], laidTests := true, laidLooks := .later }
def TopAllottedUptoCardSaid : Prop := Claim7.holds Tryz.pinned (.plain (OpenSpec.upto topAllottedSpec)) topAllottedUptoCard
end Rows
end Go.Proofs.YtpieeldbamklkaaGreatDoor
