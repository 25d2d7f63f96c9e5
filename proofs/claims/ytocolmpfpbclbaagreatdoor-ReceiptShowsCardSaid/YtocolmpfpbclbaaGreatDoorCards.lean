/-
  DERIVED. GIVEN WITH THE SEED: THE CARDS: each row of YtocolmpfpbclbaaGreatDoorRows.lean that lists a variable, with what it lists TIED to the program's text (the seventh form; the later family's looks); each row that meets fmt, with fmt's text TOLD by the authors' own Lean function (tested against real Go, not proved from fmt's source: count such statements apart). THE CARD IS WHAT COUNTS. Prove the row's statement (the work); the ties are given (YtocolmpfpbclbaaGreatDoorTie.lean); close each card by the builder's one call (the guide's Derived/Test/ToyasCard.lean, 'card_holds'). Laid BY PROGRAM, IN A SANDBOX (cutbox-door.mjs). By AI agents, Wed Nov 11 2026. No macro, syntax, notation, axiom, sorry.
-/
import Derived.Test.YtocolmpfpbclbaaGreatDoorRows
import GoSem.ClaimSeven
namespace Go.Proofs.YtocolmpfpbclbaaGreatDoor
namespace Rows

/-- THE TIED CARD OF 'vendmeterlaw.ReceiptShows'. -/
def receiptShowsCard : Claim7 := { stood := { row := receiptShowsRow, standIns := [], harness := (true, "6a44c825fbee232fdf851d948e281e5b397a359210533c74d24c8e362c56afcf"), looks := true }, kinds := [], alts := [], laidByText := true, laidKinds := [.data, .data, .data, .data, .pinned], laidTests := true, laidLooks := .later }
def ReceiptShowsCardSaid : Prop := Claim7.holds Tryz.pinned (.plain (OpenSpec.ofChange receiptShowsSpec)) receiptShowsCard

/-- THE TIED CARD OF 'vendmeterlaw.ReceiptReads'. -/
def receiptReadsCard : Claim7 := { stood := { row := receiptReadsRow, standIns := [], harness := (true, "6a44c825fbee232fdf851d948e281e5b397a359210533c74d24c8e362c56afcf"), looks := true }, kinds := [], alts := [], laidByText := true, laidKinds := [.data, .data, .data, .data, .sentinel, .sentinel, .pinned], laidTests := true, laidLooks := .later }
def ReceiptReadsCardSaid : Prop := Claim7.holds Tryz.pinned (.plain (OpenSpec.ofChange receiptReadsSpec)) receiptReadsCard

/-- THE SECOND FORM's CARD OF 'vendmeterlaw.ReceiptShows'. -/
def receiptShowsUptoCard : Claim7 := { stood := { row := receiptShowsUptoRow, standIns := [], harness := (true, "6a44c825fbee232fdf851d948e281e5b397a359210533c74d24c8e362c56afcf"), looks := true }, kinds := [], alts := [], laidByText := true, laidKinds := [.data, .data, .data, .data, .pinned], laidTests := true, laidLooks := .later }
def ReceiptShowsUptoCardSaid : Prop := Claim7.holds Tryz.pinned (.plain (OpenSpec.upto receiptShowsSpec)) receiptShowsUptoCard

/-- THE SECOND FORM's CARD OF 'vendmeterlaw.ReceiptReads'. -/
def receiptReadsUptoCard : Claim7 := { stood := { row := receiptReadsUptoRow, standIns := [], harness := (true, "6a44c825fbee232fdf851d948e281e5b397a359210533c74d24c8e362c56afcf"), looks := true }, kinds := [], alts := [], laidByText := true, laidKinds := [.data, .data, .data, .data, .sentinel, .sentinel, .pinned], laidTests := true, laidLooks := .later }
def ReceiptReadsUptoCardSaid : Prop := Claim7.holds Tryz.pinned (.plain (OpenSpec.upto receiptReadsSpec)) receiptReadsUptoCard
end Rows
end Go.Proofs.YtocolmpfpbclbaaGreatDoor
