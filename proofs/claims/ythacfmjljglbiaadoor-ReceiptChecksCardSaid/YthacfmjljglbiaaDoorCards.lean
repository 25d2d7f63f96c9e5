/-
  DERIVED. GIVEN WITH THE SEED: THE CARDS: each row of YthacfmjljglbiaaDoorRows.lean that lists a variable, with what it lists TIED to the program's text (the seventh form; the later family's looks); each row that meets fmt, with fmt's text TOLD by the authors' own Lean function (tested against real Go, not proved from fmt's source: count such statements apart). THE CARD IS WHAT COUNTS. Prove the row's statement (the work); the ties are given (YthacfmjljglbiaaDoorTie.lean); close each card by the builder's one call (the guide's Derived/Test/ToyasCard.lean, 'card_holds'). Laid BY PROGRAM, IN A SANDBOX (cutbox-door.mjs). By AI agents, Wed Nov 11 2026. No macro, syntax, notation, axiom, sorry.
-/
import Derived.Test.YthacfmjljglbiaaDoorRows
import GoSem.ClaimSeven
namespace Go.Proofs.YthacfmjljglbiaaDoor
namespace Rows

/-- THE TIED CARD OF 'vendmeterlaw.ReceiptMeters'. -/
def receiptMetersCard : Claim7 := { stood := { row := receiptMetersRow, standIns := [], harness := (true, "efd18d47da00bd9c4d1d91d2a5b2ba479a90a656b3142a9a0d5c45c7ffde901d"), looks := true }, kinds := [], alts := [], laidByText := true, laidKinds := [.data, .data, .data, .sentinel, .sentinel], laidTests := true, laidLooks := .later }
def ReceiptMetersCardSaid : Prop := Claim7.holds Tryd.pinned (.plain (OpenSpec.ofChange receiptMetersSpec)) receiptMetersCard

/-- THE TIED CARD OF 'vendmeterlaw.ReceiptChecks'. -/
def receiptChecksCard : Claim7 := { stood := { row := receiptChecksRow, standIns := [], harness := (true, "efd18d47da00bd9c4d1d91d2a5b2ba479a90a656b3142a9a0d5c45c7ffde901d"), looks := true }, kinds := [], alts := [], laidByText := true, laidKinds := [.data, .pinned], laidTests := true, laidLooks := .later }
def ReceiptChecksCardSaid : Prop := Claim7.holds Tryd.pinned (.plain (OpenSpec.ofChange receiptChecksSpec)) receiptChecksCard

/-- THE TIED CARD OF 'vendmeterlaw.OrderShows'. -/
def orderShowsCard : Claim7 := { stood := { row := orderShowsRow, standIns := [], harness := (true, "efd18d47da00bd9c4d1d91d2a5b2ba479a90a656b3142a9a0d5c45c7ffde901d"), looks := true }, kinds := [], alts := [], laidByText := true, laidKinds := [.data, .data, .data, .widerDeep], laidTests := true, laidLooks := .later }
def OrderShowsCardSaid : Prop := Claim7.holds Tryd.pinned (.plain (OpenSpec.ofChange orderShowsSpec)) orderShowsCard

/-- THE TIED CARD OF 'vendmeterlaw.OrderReads'. -/
def orderReadsCard : Claim7 := { stood := { row := orderReadsRow, standIns := [], harness := (true, "efd18d47da00bd9c4d1d91d2a5b2ba479a90a656b3142a9a0d5c45c7ffde901d"), looks := true }, kinds := [], alts := [], laidByText := true, laidKinds := [.data, .data, .data, .sentinel, .sentinel, .widerDeep], laidTests := true, laidLooks := .later }
def OrderReadsCardSaid : Prop := Claim7.holds Tryd.pinned (.plain (OpenSpec.ofChange orderReadsSpec)) orderReadsCard

/-- THE SECOND FORM's CARD OF 'vendmeterlaw.ReceiptMeters'. -/
def receiptMetersUptoCard : Claim7 := { stood := { row := receiptMetersUptoRow, standIns := [], harness := (true, "efd18d47da00bd9c4d1d91d2a5b2ba479a90a656b3142a9a0d5c45c7ffde901d"), looks := true }, kinds := [], alts := [], laidByText := true, laidKinds := [.data, .data, .data, .sentinel, .sentinel], laidTests := true, laidLooks := .later }
def ReceiptMetersUptoCardSaid : Prop := Claim7.holds Tryd.pinned (.plain (OpenSpec.upto receiptMetersSpec)) receiptMetersUptoCard

/-- THE SECOND FORM's CARD OF 'vendmeterlaw.ReceiptChecks'. -/
def receiptChecksUptoCard : Claim7 := { stood := { row := receiptChecksUptoRow, standIns := [], harness := (true, "efd18d47da00bd9c4d1d91d2a5b2ba479a90a656b3142a9a0d5c45c7ffde901d"), looks := true }, kinds := [], alts := [], laidByText := true, laidKinds := [.data, .pinned], laidTests := true, laidLooks := .later }
def ReceiptChecksUptoCardSaid : Prop := Claim7.holds Tryd.pinned (.plain (OpenSpec.upto receiptChecksSpec)) receiptChecksUptoCard

/-- THE SECOND FORM's CARD OF 'vendmeterlaw.OrderShows'. -/
def orderShowsUptoCard : Claim7 := { stood := { row := orderShowsUptoRow, standIns := [], harness := (true, "efd18d47da00bd9c4d1d91d2a5b2ba479a90a656b3142a9a0d5c45c7ffde901d"), looks := true }, kinds := [], alts := [], laidByText := true, laidKinds := [.data, .data, .data, .widerDeep], laidTests := true, laidLooks := .later }
def OrderShowsUptoCardSaid : Prop := Claim7.holds Tryd.pinned (.plain (OpenSpec.upto orderShowsSpec)) orderShowsUptoCard

/-- THE SECOND FORM's CARD OF 'vendmeterlaw.OrderReads'. -/
def orderReadsUptoCard : Claim7 := { stood := { row := orderReadsUptoRow, standIns := [], harness := (true, "efd18d47da00bd9c4d1d91d2a5b2ba479a90a656b3142a9a0d5c45c7ffde901d"), looks := true }, kinds := [], alts := [], laidByText := true, laidKinds := [.data, .data, .data, .sentinel, .sentinel, .widerDeep], laidTests := true, laidLooks := .later }
def OrderReadsUptoCardSaid : Prop := Claim7.holds Tryd.pinned (.plain (OpenSpec.upto orderReadsSpec)) orderReadsUptoCard
end Rows
end Go.Proofs.YthacfmjljglbiaaDoor
