/-
  DERIVED. GIVEN WITH THE SEED: THE CARDS: each row of YtdijplohafjbcaaDoorRows.lean that lists a variable, with what it lists TIED to the program's text (the seventh form; the later family's looks); each row that meets fmt, with fmt's text TOLD by the authors' own Lean function (tested against real Go, not proved from fmt's source: count such statements apart). THE CARD IS WHAT COUNTS. Prove the row's statement (the work); the ties are given (YtdijplohafjbcaaDoorTie.lean); close each card by the builder's one call (the guide's Derived/Test/ToyasCard.lean, 'card_holds'). Laid BY PROGRAM, IN A SANDBOX (cutbox-door.mjs). By AI agents, Wed Nov 11 2026. No macro, syntax, notation, axiom, sorry.
-/
import Derived.Test.YtdijplohafjbcaaDoorRows
import GoSem.ClaimSeven
namespace Go.Proofs.YtdijplohafjbcaaDoor
namespace Rows

/-- THE TIED CARD OF 'vendmeterlaw.PadKeys'. -/
def padKeysCard : Claim7 := { stood := { row := padKeysRow, standIns := [], harness := (true, "a717f2c27aa74add6c8515af8ccca99b192679d9717e443a1feae92bb8b622af"), looks := true }, kinds := [], alts := [], laidByText := true, laidKinds := [.data, .pinned], laidTests := true, laidLooks := .later }
def PadKeysCardSaid : Prop := Claim7.holds Tryd.pinned (.plain (OpenSpec.ofChange padKeysSpec)) padKeysCard

/-- THE TIED CARD OF 'vendmeterlaw.OrderShows'. -/
def orderShowsCard : Claim7 := { stood := { row := orderShowsRow, standIns := [], harness := (true, "a717f2c27aa74add6c8515af8ccca99b192679d9717e443a1feae92bb8b622af"), looks := true }, kinds := [], alts := [], laidByText := true, laidKinds := [.data, .data, .data, .widerDeep], laidTests := true, laidLooks := .later }
def OrderShowsCardSaid : Prop := Claim7.holds Tryd.pinned (.plain (OpenSpec.ofChange orderShowsSpec)) orderShowsCard

/-- THE TIED CARD OF 'vendmeterlaw.OrderReads'. -/
def orderReadsCard : Claim7 := { stood := { row := orderReadsRow, standIns := [], harness := (true, "a717f2c27aa74add6c8515af8ccca99b192679d9717e443a1feae92bb8b622af"), looks := true }, kinds := [], alts := [], laidByText := true, laidKinds := [.data, .data, .data, .sentinel, .sentinel, .widerDeep], laidTests := true, laidLooks := .later }
def OrderReadsCardSaid : Prop := Claim7.holds Tryd.pinned (.plain (OpenSpec.ofChange orderReadsSpec)) orderReadsCard

/-- THE SECOND FORM's CARD OF 'vendmeterlaw.PadKeys'. -/
def padKeysUptoCard : Claim7 := { stood := { row := padKeysUptoRow, standIns := [], harness := (true, "a717f2c27aa74add6c8515af8ccca99b192679d9717e443a1feae92bb8b622af"), looks := true }, kinds := [], alts := [], laidByText := true, laidKinds := [.data, .pinned], laidTests := true, laidLooks := .later }
def PadKeysUptoCardSaid : Prop := Claim7.holds Tryd.pinned (.plain (OpenSpec.upto padKeysSpec)) padKeysUptoCard

/-- THE SECOND FORM's CARD OF 'vendmeterlaw.OrderShows'. -/
def orderShowsUptoCard : Claim7 := { stood := { row := orderShowsUptoRow, standIns := [], harness := (true, "a717f2c27aa74add6c8515af8ccca99b192679d9717e443a1feae92bb8b622af"), looks := true }, kinds := [], alts := [], laidByText := true, laidKinds := [.data, .data, .data, .widerDeep], laidTests := true, laidLooks := .later }
def OrderShowsUptoCardSaid : Prop := Claim7.holds Tryd.pinned (.plain (OpenSpec.upto orderShowsSpec)) orderShowsUptoCard

/-- THE SECOND FORM's CARD OF 'vendmeterlaw.OrderReads'. -/
def orderReadsUptoCard : Claim7 := { stood := { row := orderReadsUptoRow, standIns := [], harness := (true, "a717f2c27aa74add6c8515af8ccca99b192679d9717e443a1feae92bb8b622af"), looks := true }, kinds := [], alts := [], laidByText := true, laidKinds := [.data, .data, .data, .sentinel, .sentinel, .widerDeep], laidTests := true, laidLooks := .later }
def OrderReadsUptoCardSaid : Prop := Claim7.holds Tryd.pinned (.plain (OpenSpec.upto orderReadsSpec)) orderReadsUptoCard
end Rows
end Go.Proofs.YtdijplohafjbcaaDoor
