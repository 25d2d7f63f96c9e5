/-
  DERIVED. GIVEN WITH THE SEED: THE CARDS: each row of YtcllddkmcnfejaaGreatDoorRows.lean that lists a variable, with what it lists TIED to the program's text (the seventh form; the later family's looks); each row that meets fmt, with fmt's text TOLD by the authors' own Lean function (tested against real Go, not proved from fmt's source: count such statements apart). THE CARD IS WHAT COUNTS. Prove the row's statement (the work); the ties are given (YtcllddkmcnfejaaGreatDoorTie.lean); close each card by the builder's one call (the guide's Derived/Test/ToyasCard.lean, 'card_holds'). Laid BY PROGRAM, IN A SANDBOX (cutbox-door.mjs). By AI agents, Wed Nov 11 2026. No macro, syntax, notation, axiom, sorry.
-/
import Derived.Test.YtcllddkmcnfejaaGreatDoorRows
import GoSem.ClaimSeven
namespace Go.Proofs.YtcllddkmcnfejaaGreatDoor
namespace Rows

/-- THE TIED CARD OF 'vendmeterlaw.PocketKeys'. -/
def pocketKeysCard : Claim7 := { stood := { row := pocketKeysRow, standIns := [], harness := (true, "532324a4b512f7268bdbfb8dafdda222054edbdd3945361165d9425a049a3a20"), looks := false }, kinds := [], alts := [], laidByText := true, laidKinds := [.data, .pinned], laidTests := true, laidLooks := .later }
def PocketKeysCardSaid : Prop := Claim7.holds Tryz.pinned (.plain (OpenSpec.ofChange pocketKeysSpec)) pocketKeysCard

/-- THE SECOND FORM's CARD OF 'vendmeterlaw.PocketKeys'. -/
def pocketKeysUptoCard : Claim7 := { stood := { row := pocketKeysUptoRow, standIns := [], harness := (true, "532324a4b512f7268bdbfb8dafdda222054edbdd3945361165d9425a049a3a20"), looks := false }, kinds := [], alts := [], laidByText := true, laidKinds := [.data, .pinned], laidTests := true, laidLooks := .later }
def PocketKeysUptoCardSaid : Prop := Claim7.holds Tryz.pinned (.plain (OpenSpec.upto pocketKeysSpec)) pocketKeysUptoCard
end Rows
end Go.Proofs.YtcllddkmcnfejaaGreatDoor
