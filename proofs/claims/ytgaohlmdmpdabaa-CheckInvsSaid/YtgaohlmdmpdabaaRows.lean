/-
  No cell of these rows narrows 'for every input' (looked for: loops, veiled, ifaces, maps, wideKeys, modest, calm, conditions, laid).
  DERIVED. THE GIVEN ROWS OF THIS SEAT. 12 by the template 'for every input the law returns true; each argument reads behind the call as it read before'; 0 by the template 'total and deterministic' (their statements: YtgaohlmdmpdabaaTotals.lean).
  GIVEN WITH THE SEED: the statements are not yours to turn. If you find one false, say at which input.
  Laid BY PROGRAM, IN A SANDBOX (cutbox-rows.mjs): the forced cells as the released guide's own fill.sh prints them over the translation 942ed939eda7c9cc… (all of the seat's roots in one cut). By AI agents, Wed Nov 11 2026. No macro, syntax, notation, axiom, sorry.
-/
import Derived.Test.YtgaohlmdmpdabaaChecked
import GoSem.Claim
import GoSem.ClaimJoined
import GoSem.ClaimMapViews
import Derived.JoinedTies
import Derived.KernelRfl
namespace Go.Proofs.Ytgaohlmdmpdabaa
/- THE CELL 'sum', in the pinned program and in every row, IS THE sha256 OF THE DUMP (.gsa) THAT YtgaohlmdmpdabaaProg.lean LOADS. Nothing in Lean hashes anything: it is a label: what it is worth is what the hold of that sum in a sandbox is worth. -/
noncomputable def Try.pinned : Pinned := { name := "ytgaohlmdmpdabaa", sum := "942ed939eda7c9cc6ab0d40627ca90d2983f127ada35a6405ba914cc97329584", checked := Try.checked }
namespace Rows
def none {H : Type} : Left H := { results := [], args := [] }

/-- 'vendmeterlaw.Names': WHATEVER THE INPUT: true; the input reads as it did. -/
def namesSpec : ChangeSpec := { name := "names", fn := fun _ => fun
  | [] => { results := [.lit (.bool true)], args := [] }
  | _ => none }
def namesRow : OpenClaim := { program := "ytgaohlmdmpdabaa", sum := "942ed939eda7c9cc6ab0d40627ca90d2983f127ada35a6405ba914cc97329584", func := "vendmeter/vendmeterlaw.Names", spec := "names", apart := false }
def NamesSaid : Prop := namesRow.holds Try.pinned (OpenSpec.ofChange namesSpec)

/-- ITS FALSE NEIGHBOUR: 'it returns false'. Refute it at one input. -/
def namesWrong : ChangeSpec := { name := "names", fn := fun _ => fun
  | [] => { results := [.lit (.bool false)], args := [] }
  | _ => none }
def NamesWrongFalsely : Prop := namesRow.holds Try.pinned (OpenSpec.ofChange namesWrong)

/-- 'vendmeterlaw.CellBlanks': WHATEVER THE INPUT: true; the input reads as it did. -/
def cellBlanksSpec : ChangeSpec := { name := "cellBlanks", fn := fun _ => fun
  | [d] => { results := [.lit (.bool true)], args := [d] }
  | _ => none }
def cellBlanksRow : OpenClaim := { program := "ytgaohlmdmpdabaa", sum := "942ed939eda7c9cc6ab0d40627ca90d2983f127ada35a6405ba914cc97329584", func := "vendmeter/vendmeterlaw.CellBlanks", spec := "cellBlanks", apart := false }
def CellBlanksSaid : Prop := cellBlanksRow.holds Try.pinned (OpenSpec.ofChange cellBlanksSpec)

/-- ITS FALSE NEIGHBOUR: 'it returns false'. Refute it at one input. -/
def cellBlanksWrong : ChangeSpec := { name := "cellBlanks", fn := fun _ => fun
  | [d] => { results := [.lit (.bool false)], args := [d] }
  | _ => none }
def CellBlanksWrongFalsely : Prop := cellBlanksRow.holds Try.pinned (OpenSpec.ofChange cellBlanksWrong)

/-- 'vendmeterlaw.CalWeekdays': WHATEVER THE INPUT: true; the input reads as it did. -/
def calWeekdaysSpec : ChangeSpec := { name := "calWeekdays", fn := fun _ => fun
  | [d] => { results := [.lit (.bool true)], args := [d] }
  | _ => none }
def calWeekdaysRow : OpenClaim := { program := "ytgaohlmdmpdabaa", sum := "942ed939eda7c9cc6ab0d40627ca90d2983f127ada35a6405ba914cc97329584", func := "vendmeter/vendmeterlaw.CalWeekdays", spec := "calWeekdays", apart := false }
def CalWeekdaysSaid : Prop := calWeekdaysRow.holds Try.pinned (OpenSpec.ofChange calWeekdaysSpec)

/-- ITS FALSE NEIGHBOUR: 'it returns false'. Refute it at one input. -/
def calWeekdaysWrong : ChangeSpec := { name := "calWeekdays", fn := fun _ => fun
  | [d] => { results := [.lit (.bool false)], args := [d] }
  | _ => none }
def CalWeekdaysWrongFalsely : Prop := calWeekdaysRow.holds Try.pinned (OpenSpec.ofChange calWeekdaysWrong)

/-- 'vendmeterlaw.CentsParts': WHATEVER THE INPUT: true; the input reads as it did. -/
def centsPartsSpec : ChangeSpec := { name := "centsParts", fn := fun _ => fun
  | [d1, d2] => { results := [.lit (.bool true)], args := [d1, d2] }
  | _ => none }
def centsPartsRow : OpenClaim := { program := "ytgaohlmdmpdabaa", sum := "942ed939eda7c9cc6ab0d40627ca90d2983f127ada35a6405ba914cc97329584", func := "vendmeter/vendmeterlaw.CentsParts", spec := "centsParts", apart := false }
def CentsPartsSaid : Prop := centsPartsRow.holds Try.pinned (OpenSpec.ofChange centsPartsSpec)

/-- ITS FALSE NEIGHBOUR: 'it returns false'. Refute it at one input. -/
def centsPartsWrong : ChangeSpec := { name := "centsParts", fn := fun _ => fun
  | [d1, d2] => { results := [.lit (.bool false)], args := [d1, d2] }
  | _ => none }
def CentsPartsWrongFalsely : Prop := centsPartsRow.holds Try.pinned (OpenSpec.ofChange centsPartsWrong)

/-- 'vendmeterlaw.SlotFreshes': WHATEVER THE INPUT: true; the input reads as it did. -/
def slotFreshesSpec : ChangeSpec := { name := "slotFreshes", fn := fun _ => fun
  | [d] => { results := [.lit (.bool true)], args := [d] }
  | _ => none }
def slotFreshesRow : OpenClaim := { program := "ytgaohlmdmpdabaa", sum := "942ed939eda7c9cc6ab0d40627ca90d2983f127ada35a6405ba914cc97329584", func := "vendmeter/vendmeterlaw.SlotFreshes", spec := "slotFreshes", apart := false }
def SlotFreshesSaid : Prop := slotFreshesRow.holds Try.pinned (OpenSpec.ofChange slotFreshesSpec)

/-- ITS FALSE NEIGHBOUR: 'it returns false'. Refute it at one input. -/
def slotFreshesWrong : ChangeSpec := { name := "slotFreshes", fn := fun _ => fun
  | [d] => { results := [.lit (.bool false)], args := [d] }
  | _ => none }
def SlotFreshesWrongFalsely : Prop := slotFreshesRow.holds Try.pinned (OpenSpec.ofChange slotFreshesWrong)

/-- 'vendmeterlaw.CheckInvs': WHATEVER THE INPUT: true; the input reads as it did. -/
def checkInvsSpec : ChangeSpec := { name := "checkInvs", fn := fun _ => fun
  | [d] => { results := [.lit (.bool true)], args := [d] }
  | _ => none }
def checkInvsRow : OpenClaim := { program := "ytgaohlmdmpdabaa", sum := "942ed939eda7c9cc6ab0d40627ca90d2983f127ada35a6405ba914cc97329584", func := "vendmeter/vendmeterlaw.CheckInvs", spec := "checkInvs", apart := false }
def CheckInvsSaid : Prop := checkInvsRow.holds Try.pinned (OpenSpec.ofChange checkInvsSpec)

/-- ITS FALSE NEIGHBOUR: 'it returns false'. Refute it at one input. -/
def checkInvsWrong : ChangeSpec := { name := "checkInvs", fn := fun _ => fun
  | [d] => { results := [.lit (.bool false)], args := [d] }
  | _ => none }
def CheckInvsWrongFalsely : Prop := checkInvsRow.holds Try.pinned (OpenSpec.ofChange checkInvsWrong)

/-- 'vendmeterlaw.CellDiffs': WHATEVER THE INPUT: true; the input reads as it did. -/
def cellDiffsSpec : ChangeSpec := { name := "cellDiffs", fn := fun _ => fun
  | [d1, d2] => { results := [.lit (.bool true)], args := [d1, d2] }
  | _ => none }
def cellDiffsRow : OpenClaim := { program := "ytgaohlmdmpdabaa", sum := "942ed939eda7c9cc6ab0d40627ca90d2983f127ada35a6405ba914cc97329584", func := "vendmeter/vendmeterlaw.CellDiffs", spec := "cellDiffs", apart := false }
def CellDiffsSaid : Prop := cellDiffsRow.holds Try.pinned (OpenSpec.ofChange cellDiffsSpec)

/-- ITS FALSE NEIGHBOUR: 'it returns false'. Refute it at one input. -/
def cellDiffsWrong : ChangeSpec := { name := "cellDiffs", fn := fun _ => fun
  | [d1, d2] => { results := [.lit (.bool false)], args := [d1, d2] }
  | _ => none }
def CellDiffsWrongFalsely : Prop := cellDiffsRow.holds Try.pinned (OpenSpec.ofChange cellDiffsWrong)

/-- 'vendmeterlaw.WordsBits': WHATEVER THE INPUT: true; the input reads as it did. -/
def wordsBitsSpec : ChangeSpec := { name := "wordsBits", fn := fun _ => fun
  | [d1, d2, d3] => { results := [.lit (.bool true)], args := [d1, d2, d3] }
  | _ => none }
def wordsBitsRow : OpenClaim := { program := "ytgaohlmdmpdabaa", sum := "942ed939eda7c9cc6ab0d40627ca90d2983f127ada35a6405ba914cc97329584", func := "vendmeter/vendmeterlaw.WordsBits", spec := "wordsBits", apart := false }
def WordsBitsSaid : Prop := wordsBitsRow.holds Try.pinned (OpenSpec.ofChange wordsBitsSpec)

/-- ITS FALSE NEIGHBOUR: 'it returns false'. Refute it at one input. -/
def wordsBitsWrong : ChangeSpec := { name := "wordsBits", fn := fun _ => fun
  | [d1, d2, d3] => { results := [.lit (.bool false)], args := [d1, d2, d3] }
  | _ => none }
def WordsBitsWrongFalsely : Prop := wordsBitsRow.holds Try.pinned (OpenSpec.ofChange wordsBitsWrong)

/-- 'vendmeterlaw.WordsPlus': WHATEVER THE INPUT: true; the input reads as it did. -/
def wordsPlusSpec : ChangeSpec := { name := "wordsPlus", fn := fun _ => fun
  | [d1, d2] => { results := [.lit (.bool true)], args := [d1, d2] }
  | _ => none }
def wordsPlusRow : OpenClaim := { program := "ytgaohlmdmpdabaa", sum := "942ed939eda7c9cc6ab0d40627ca90d2983f127ada35a6405ba914cc97329584", func := "vendmeter/vendmeterlaw.WordsPlus", spec := "wordsPlus", unfollowed := true, recurses := true, apart := false }
def WordsPlusSaid : Prop := wordsPlusRow.holds Try.pinned (OpenSpec.ofChange wordsPlusSpec)

/-- ITS FALSE NEIGHBOUR: 'it returns false'. Refute it at one input. -/
def wordsPlusWrong : ChangeSpec := { name := "wordsPlus", fn := fun _ => fun
  | [d1, d2] => { results := [.lit (.bool false)], args := [d1, d2] }
  | _ => none }
def WordsPlusWrongFalsely : Prop := wordsPlusRow.holds Try.pinned (OpenSpec.ofChange wordsPlusWrong)

/-- 'vendmeterlaw.BookFinds': WHATEVER THE INPUT: true; the input reads as it did. -/
def bookFindsSpec : ChangeSpec := { name := "bookFinds", fn := fun _ => fun
  | [d1, d2] => { results := [.lit (.bool true)], args := [d1, d2] }
  | _ => none }
def bookFindsRow : OpenClaim := { program := "ytgaohlmdmpdabaa", sum := "942ed939eda7c9cc6ab0d40627ca90d2983f127ada35a6405ba914cc97329584", func := "vendmeter/vendmeterlaw.BookFinds", spec := "bookFinds", unfollowed := true, recurses := true, apart := false }
def BookFindsSaid : Prop := bookFindsRow.holds Try.pinned (OpenSpec.ofChange bookFindsSpec)

/-- ITS FALSE NEIGHBOUR: 'it returns false'. Refute it at one input. -/
def bookFindsWrong : ChangeSpec := { name := "bookFinds", fn := fun _ => fun
  | [d1, d2] => { results := [.lit (.bool false)], args := [d1, d2] }
  | _ => none }
def BookFindsWrongFalsely : Prop := bookFindsRow.holds Try.pinned (OpenSpec.ofChange bookFindsWrong)

/-- 'vendmeterlaw.WordsOver': WHATEVER THE INPUT: true; the input reads as it did. -/
def wordsOverSpec : ChangeSpec := { name := "wordsOver", fn := fun _ => fun
  | [d1, d2] => { results := [.lit (.bool true)], args := [d1, d2] }
  | _ => none }
def wordsOverRow : OpenClaim := { program := "ytgaohlmdmpdabaa", sum := "942ed939eda7c9cc6ab0d40627ca90d2983f127ada35a6405ba914cc97329584", func := "vendmeter/vendmeterlaw.WordsOver", spec := "wordsOver", named := ["math/bits.overflowError"], apart := false }
def WordsOverSaid : Prop := wordsOverRow.holds Try.pinned (OpenSpec.ofChange wordsOverSpec)

/-- ITS FALSE NEIGHBOUR: 'it returns false'. Refute it at one input. -/
def wordsOverWrong : ChangeSpec := { name := "wordsOver", fn := fun _ => fun
  | [d1, d2] => { results := [.lit (.bool false)], args := [d1, d2] }
  | _ => none }
def WordsOverWrongFalsely : Prop := wordsOverRow.holds Try.pinned (OpenSpec.ofChange wordsOverWrong)

/-- 'vendmeterlaw.CheckMuls': WHATEVER THE INPUT: true; the input reads as it did. -/
def checkMulsSpec : ChangeSpec := { name := "checkMuls", fn := fun _ => fun
  | [d1, d2] => { results := [.lit (.bool true)], args := [d1, d2] }
  | _ => none }
def checkMulsRow : OpenClaim := { program := "ytgaohlmdmpdabaa", sum := "942ed939eda7c9cc6ab0d40627ca90d2983f127ada35a6405ba914cc97329584", func := "vendmeter/vendmeterlaw.CheckMuls", spec := "checkMuls", unfollowed := true, recurses := true, apart := false }
def CheckMulsSaid : Prop := checkMulsRow.holds Try.pinned (OpenSpec.ofChange checkMulsSpec)

/-- ITS FALSE NEIGHBOUR: 'it returns false'. Refute it at one input. -/
def checkMulsWrong : ChangeSpec := { name := "checkMuls", fn := fun _ => fun
  | [d1, d2] => { results := [.lit (.bool false)], args := [d1, d2] }
  | _ => none }
def CheckMulsWrongFalsely : Prop := checkMulsRow.holds Try.pinned (OpenSpec.ofChange checkMulsWrong)

/- THE SECOND FORM. 'bulk': how many values and letters a reading holds, each counted each time it is reached (what is shared counts as often as it is met; a slice's spare places count too). A statement '..UptoSaid' is the law's where the arguments, and the package variables that the reading takes, are together of bulk at most 1048576: NARROWER than '..Said'. Prove '..Said' where nothing that the law and all that it calls make is longer than what came in: it says more and counts as full. Else prove '..UptoSaid'. A law counts once. -/
mutual
def uptoBulk {H : Type} : DataW H → Nat
  | .lit (.string bytes) => bytes.length + 1
  | .lit _ => 1
  | .nil => 1
  | .ptr d => uptoBulk d + 1
  | .slice elems spare => uptoBulkAll elems + uptoBulkAll spare + 1
  | .agg parts => uptoBulkAll parts + 1
  | .iface _ d => uptoBulk d + 1
  | .map entries => uptoBulkEntries entries + 1
  | .held _ => 1
def uptoBulkAll {H : Type} : List (DataW H) → Nat
  | [] => 0
  | d :: r => uptoBulk d + uptoBulkAll r
def uptoBulkEntries {H : Type} : List (Lit × DataW H) → Nat
  | [] => 0
  | x :: r => uptoBulkEntry x + uptoBulkEntries r
def uptoBulkEntry {H : Type} : Lit × DataW H → Nat
  | (.string bytes, d) => bytes.length + uptoBulk d + 1
  | (_, d) => uptoBulk d + 1
 end
def uptoSmall : (H : Type) → List (DataW H) → Bool := fun _ ds => decide (uptoBulkAll ds ≤ 1048576)
def OpenSpec.upto (s : _root_.Go.ChangeSpec) : _root_.Go.OpenSpec := { _root_.Go.OpenSpec.ofChange s with cond := some uptoSmall }

/-- 'vendmeterlaw.Names', WHERE WHAT IT READS IS OF BULK AT MOST 1048576: true; the input reads as it did. -/
def namesUptoRow : OpenClaim := { program := "ytgaohlmdmpdabaa", sum := "942ed939eda7c9cc6ab0d40627ca90d2983f127ada35a6405ba914cc97329584", func := "vendmeter/vendmeterlaw.Names", spec := "names", apart := false, narrowed := true }
def NamesUptoSaid : Prop := namesUptoRow.holds Try.pinned (OpenSpec.upto namesSpec)

/-- 'vendmeterlaw.CellBlanks', WHERE WHAT IT READS IS OF BULK AT MOST 1048576: true; the input reads as it did. -/
def cellBlanksUptoRow : OpenClaim := { program := "ytgaohlmdmpdabaa", sum := "942ed939eda7c9cc6ab0d40627ca90d2983f127ada35a6405ba914cc97329584", func := "vendmeter/vendmeterlaw.CellBlanks", spec := "cellBlanks", apart := false, narrowed := true }
def CellBlanksUptoSaid : Prop := cellBlanksUptoRow.holds Try.pinned (OpenSpec.upto cellBlanksSpec)

/-- 'vendmeterlaw.CalWeekdays', WHERE WHAT IT READS IS OF BULK AT MOST 1048576: true; the input reads as it did. -/
def calWeekdaysUptoRow : OpenClaim := { program := "ytgaohlmdmpdabaa", sum := "942ed939eda7c9cc6ab0d40627ca90d2983f127ada35a6405ba914cc97329584", func := "vendmeter/vendmeterlaw.CalWeekdays", spec := "calWeekdays", apart := false, narrowed := true }
def CalWeekdaysUptoSaid : Prop := calWeekdaysUptoRow.holds Try.pinned (OpenSpec.upto calWeekdaysSpec)

/-- 'vendmeterlaw.CentsParts', WHERE WHAT IT READS IS OF BULK AT MOST 1048576: true; the input reads as it did. -/
def centsPartsUptoRow : OpenClaim := { program := "ytgaohlmdmpdabaa", sum := "942ed939eda7c9cc6ab0d40627ca90d2983f127ada35a6405ba914cc97329584", func := "vendmeter/vendmeterlaw.CentsParts", spec := "centsParts", apart := false, narrowed := true }
def CentsPartsUptoSaid : Prop := centsPartsUptoRow.holds Try.pinned (OpenSpec.upto centsPartsSpec)

/-- 'vendmeterlaw.SlotFreshes', WHERE WHAT IT READS IS OF BULK AT MOST 1048576: true; the input reads as it did. -/
def slotFreshesUptoRow : OpenClaim := { program := "ytgaohlmdmpdabaa", sum := "942ed939eda7c9cc6ab0d40627ca90d2983f127ada35a6405ba914cc97329584", func := "vendmeter/vendmeterlaw.SlotFreshes", spec := "slotFreshes", apart := false, narrowed := true }
def SlotFreshesUptoSaid : Prop := slotFreshesUptoRow.holds Try.pinned (OpenSpec.upto slotFreshesSpec)

/-- 'vendmeterlaw.CheckInvs', WHERE WHAT IT READS IS OF BULK AT MOST 1048576: true; the input reads as it did. -/
def checkInvsUptoRow : OpenClaim := { program := "ytgaohlmdmpdabaa", sum := "942ed939eda7c9cc6ab0d40627ca90d2983f127ada35a6405ba914cc97329584", func := "vendmeter/vendmeterlaw.CheckInvs", spec := "checkInvs", apart := false, narrowed := true }
def CheckInvsUptoSaid : Prop := checkInvsUptoRow.holds Try.pinned (OpenSpec.upto checkInvsSpec)

/-- 'vendmeterlaw.CellDiffs', WHERE WHAT IT READS IS OF BULK AT MOST 1048576: true; the input reads as it did. -/
def cellDiffsUptoRow : OpenClaim := { program := "ytgaohlmdmpdabaa", sum := "942ed939eda7c9cc6ab0d40627ca90d2983f127ada35a6405ba914cc97329584", func := "vendmeter/vendmeterlaw.CellDiffs", spec := "cellDiffs", apart := false, narrowed := true }
def CellDiffsUptoSaid : Prop := cellDiffsUptoRow.holds Try.pinned (OpenSpec.upto cellDiffsSpec)

/-- 'vendmeterlaw.WordsBits', WHERE WHAT IT READS IS OF BULK AT MOST 1048576: true; the input reads as it did. -/
def wordsBitsUptoRow : OpenClaim := { program := "ytgaohlmdmpdabaa", sum := "942ed939eda7c9cc6ab0d40627ca90d2983f127ada35a6405ba914cc97329584", func := "vendmeter/vendmeterlaw.WordsBits", spec := "wordsBits", apart := false, narrowed := true }
def WordsBitsUptoSaid : Prop := wordsBitsUptoRow.holds Try.pinned (OpenSpec.upto wordsBitsSpec)

/-- 'vendmeterlaw.WordsPlus', WHERE WHAT IT READS IS OF BULK AT MOST 1048576: true; the input reads as it did. -/
def wordsPlusUptoRow : OpenClaim := { program := "ytgaohlmdmpdabaa", sum := "942ed939eda7c9cc6ab0d40627ca90d2983f127ada35a6405ba914cc97329584", func := "vendmeter/vendmeterlaw.WordsPlus", spec := "wordsPlus", unfollowed := true, recurses := true, apart := false, narrowed := true }
def WordsPlusUptoSaid : Prop := wordsPlusUptoRow.holds Try.pinned (OpenSpec.upto wordsPlusSpec)

/-- 'vendmeterlaw.BookFinds', WHERE WHAT IT READS IS OF BULK AT MOST 1048576: true; the input reads as it did. -/
def bookFindsUptoRow : OpenClaim := { program := "ytgaohlmdmpdabaa", sum := "942ed939eda7c9cc6ab0d40627ca90d2983f127ada35a6405ba914cc97329584", func := "vendmeter/vendmeterlaw.BookFinds", spec := "bookFinds", unfollowed := true, recurses := true, apart := false, narrowed := true }
def BookFindsUptoSaid : Prop := bookFindsUptoRow.holds Try.pinned (OpenSpec.upto bookFindsSpec)

/-- 'vendmeterlaw.WordsOver', WHERE WHAT IT READS IS OF BULK AT MOST 1048576: true; the input reads as it did. -/
def wordsOverUptoRow : OpenClaim := { program := "ytgaohlmdmpdabaa", sum := "942ed939eda7c9cc6ab0d40627ca90d2983f127ada35a6405ba914cc97329584", func := "vendmeter/vendmeterlaw.WordsOver", spec := "wordsOver", named := ["math/bits.overflowError"], apart := false, narrowed := true }
def WordsOverUptoSaid : Prop := wordsOverUptoRow.holds Try.pinned (OpenSpec.upto wordsOverSpec)

/-- 'vendmeterlaw.CheckMuls', WHERE WHAT IT READS IS OF BULK AT MOST 1048576: true; the input reads as it did. -/
def checkMulsUptoRow : OpenClaim := { program := "ytgaohlmdmpdabaa", sum := "942ed939eda7c9cc6ab0d40627ca90d2983f127ada35a6405ba914cc97329584", func := "vendmeter/vendmeterlaw.CheckMuls", spec := "checkMuls", unfollowed := true, recurses := true, apart := false, narrowed := true }
def CheckMulsUptoSaid : Prop := checkMulsUptoRow.holds Try.pinned (OpenSpec.upto checkMulsSpec)

end Rows
end Go.Proofs.Ytgaohlmdmpdabaa
