/-
  DERIVED. GIVEN WITH THE SEED: THE CARDS: each row of YtoookcmablnjfaaDoorRows.lean that lists a variable, with what it lists TIED to the program's text (the seventh form; the later family's looks); each row that meets fmt, with fmt's text TOLD by the authors' own Lean function (tested against real Go, not proved from fmt's source: count such statements apart). THE CARD IS WHAT COUNTS. Prove the row's statement (the work); the ties are given (YtoookcmablnjfaaDoorTie.lean); close each card by the builder's one call (the guide's Derived/Test/ToyasCard.lean, 'card_holds'). Laid BY PROGRAM, IN A SANDBOX (cutbox-door.mjs). By AI agents, Wed Nov 11 2026. No macro, syntax, notation, axiom, sorry.
-/
import Derived.Test.YtoookcmablnjfaaDoorRows
import GoSem.ClaimSeven
namespace Go.Proofs.YtoookcmablnjfaaDoor
namespace Rows

/-- THE TIED CARD OF 'vendmeterlaw.TokenParses'. -/
def tokenParsesCard : Claim7 := { stood := { row := tokenParsesRow, standIns := [], harness := (true, "6015d75b080db5584edaf1be130bd5663dfb72521952f709a7face3d81ec82fe"), looks := true }, kinds := [], alts := [], laidByText := true, laidKinds := [.data, .pinned], laidTests := true, laidLooks := .later }
def TokenParsesCardSaid : Prop := Claim7.holds Tryd.pinned (.plain (OpenSpec.ofChange tokenParsesSpec)) tokenParsesCard

/-- THE TIED CARD OF 'vendmeterlaw.CentsShows'. -/
def centsShowsCard : Claim7 := { stood := { row := centsShowsRow, standIns := [], harness := (true, "6015d75b080db5584edaf1be130bd5663dfb72521952f709a7face3d81ec82fe"), looks := true }, kinds := [], alts := [], laidByText := true, laidKinds := [.data, .data, .data], laidTests := true, laidLooks := .later }
def CentsShowsCardSaid : Prop := Claim7.holds Tryd.pinned (.plain (OpenSpec.ofChange centsShowsSpec)) centsShowsCard

/-- THE TIED CARD OF 'vendmeterlaw.PadKeys'. -/
def padKeysCard : Claim7 := { stood := { row := padKeysRow, standIns := [], harness := (true, "6015d75b080db5584edaf1be130bd5663dfb72521952f709a7face3d81ec82fe"), looks := true }, kinds := [], alts := [], laidByText := true, laidKinds := [.data, .pinned], laidTests := true, laidLooks := .later }
def PadKeysCardSaid : Prop := Claim7.holds Tryd.pinned (.plain (OpenSpec.ofChange padKeysSpec)) padKeysCard

/-- THE TIED CARD OF 'vendmeterlaw.PadPresses'. -/
def padPressesCard : Claim7 := { stood := { row := padPressesRow, standIns := [], harness := (true, "6015d75b080db5584edaf1be130bd5663dfb72521952f709a7face3d81ec82fe"), looks := true }, kinds := [], alts := [], laidByText := true, laidKinds := [.data, .pinned], laidTests := true, laidLooks := .later }
def PadPressesCardSaid : Prop := Claim7.holds Tryd.pinned (.plain (OpenSpec.ofChange padPressesSpec)) padPressesCard

/-- THE TIED CARD OF 'vendmeterlaw.ReceiptNumbers'. -/
def receiptNumbersCard : Claim7 := { stood := { row := receiptNumbersRow, standIns := [], harness := (true, "6015d75b080db5584edaf1be130bd5663dfb72521952f709a7face3d81ec82fe"), looks := true }, kinds := [], alts := [], laidByText := true, laidKinds := [.data, .data, .data], laidTests := true, laidLooks := .later }
def ReceiptNumbersCardSaid : Prop := Claim7.holds Tryd.pinned (.plain (OpenSpec.ofChange receiptNumbersSpec)) receiptNumbersCard

/-- THE TIED CARD OF 'vendmeterlaw.CodeShows'. -/
def codeShowsCard : Claim7 := { stood := { row := codeShowsRow, standIns := [], harness := (true, "6015d75b080db5584edaf1be130bd5663dfb72521952f709a7face3d81ec82fe"), looks := true }, kinds := [], alts := [], laidByText := true, laidKinds := [.data, .data, .data], laidTests := true, laidLooks := .later }
def CodeShowsCardSaid : Prop := Claim7.holds Tryd.pinned (.plain (OpenSpec.ofChange codeShowsSpec)) codeShowsCard

/-- THE TIED CARD OF 'vendmeterlaw.CodeReads'. -/
def codeReadsCard : Claim7 := { stood := { row := codeReadsRow, standIns := [], harness := (true, "6015d75b080db5584edaf1be130bd5663dfb72521952f709a7face3d81ec82fe"), looks := true }, kinds := [], alts := [], laidByText := true, laidKinds := [.data, .data, .data, .sentinel, .sentinel], laidTests := true, laidLooks := .later }
def CodeReadsCardSaid : Prop := Claim7.holds Tryd.pinned (.plain (OpenSpec.ofChange codeReadsSpec)) codeReadsCard

/-- THE SECOND FORM's CARD OF 'vendmeterlaw.TokenParses'. -/
def tokenParsesUptoCard : Claim7 := { stood := { row := tokenParsesUptoRow, standIns := [], harness := (true, "6015d75b080db5584edaf1be130bd5663dfb72521952f709a7face3d81ec82fe"), looks := true }, kinds := [], alts := [], laidByText := true, laidKinds := [.data, .pinned], laidTests := true, laidLooks := .later }
def TokenParsesUptoCardSaid : Prop := Claim7.holds Tryd.pinned (.plain (OpenSpec.upto tokenParsesSpec)) tokenParsesUptoCard

/-- THE SECOND FORM's CARD OF 'vendmeterlaw.CentsShows'. -/
def centsShowsUptoCard : Claim7 := { stood := { row := centsShowsUptoRow, standIns := [], harness := (true, "6015d75b080db5584edaf1be130bd5663dfb72521952f709a7face3d81ec82fe"), looks := true }, kinds := [], alts := [], laidByText := true, laidKinds := [.data, .data, .data], laidTests := true, laidLooks := .later }
def CentsShowsUptoCardSaid : Prop := Claim7.holds Tryd.pinned (.plain (OpenSpec.upto centsShowsSpec)) centsShowsUptoCard

/-- THE SECOND FORM's CARD OF 'vendmeterlaw.PadKeys'. -/
def padKeysUptoCard : Claim7 := { stood := { row := padKeysUptoRow, standIns := [], harness := (true, "6015d75b080db5584edaf1be130bd5663dfb72521952f709a7face3d81ec82fe"), looks := true }, kinds := [], alts := [], laidByText := true, laidKinds := [.data, .pinned], laidTests := true, laidLooks := .later }
def PadKeysUptoCardSaid : Prop := Claim7.holds Tryd.pinned (.plain (OpenSpec.upto padKeysSpec)) padKeysUptoCard

/-- THE SECOND FORM's CARD OF 'vendmeterlaw.PadPresses'. -/
def padPressesUptoCard : Claim7 := { stood := { row := padPressesUptoRow, standIns := [], harness := (true, "6015d75b080db5584edaf1be130bd5663dfb72521952f709a7face3d81ec82fe"), looks := true }, kinds := [], alts := [], laidByText := true, laidKinds := [.data, .pinned], laidTests := true, laidLooks := .later }
def PadPressesUptoCardSaid : Prop := Claim7.holds Tryd.pinned (.plain (OpenSpec.upto padPressesSpec)) padPressesUptoCard

/-- THE SECOND FORM's CARD OF 'vendmeterlaw.ReceiptNumbers'. -/
def receiptNumbersUptoCard : Claim7 := { stood := { row := receiptNumbersUptoRow, standIns := [], harness := (true, "6015d75b080db5584edaf1be130bd5663dfb72521952f709a7face3d81ec82fe"), looks := true }, kinds := [], alts := [], laidByText := true, laidKinds := [.data, .data, .data], laidTests := true, laidLooks := .later }
def ReceiptNumbersUptoCardSaid : Prop := Claim7.holds Tryd.pinned (.plain (OpenSpec.upto receiptNumbersSpec)) receiptNumbersUptoCard

/-- THE SECOND FORM's CARD OF 'vendmeterlaw.CodeShows'. -/
def codeShowsUptoCard : Claim7 := { stood := { row := codeShowsUptoRow, standIns := [], harness := (true, "6015d75b080db5584edaf1be130bd5663dfb72521952f709a7face3d81ec82fe"), looks := true }, kinds := [], alts := [], laidByText := true, laidKinds := [.data, .data, .data], laidTests := true, laidLooks := .later }
def CodeShowsUptoCardSaid : Prop := Claim7.holds Tryd.pinned (.plain (OpenSpec.upto codeShowsSpec)) codeShowsUptoCard

/-- THE SECOND FORM's CARD OF 'vendmeterlaw.CodeReads'. -/
def codeReadsUptoCard : Claim7 := { stood := { row := codeReadsUptoRow, standIns := [], harness := (true, "6015d75b080db5584edaf1be130bd5663dfb72521952f709a7face3d81ec82fe"), looks := true }, kinds := [], alts := [], laidByText := true, laidKinds := [.data, .data, .data, .sentinel, .sentinel], laidTests := true, laidLooks := .later }
def CodeReadsUptoCardSaid : Prop := Claim7.holds Tryd.pinned (.plain (OpenSpec.upto codeReadsSpec)) codeReadsUptoCard
end Rows
end Go.Proofs.YtoookcmablnjfaaDoor
