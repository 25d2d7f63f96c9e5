/-
  No cell of these rows narrows 'for every input' (looked for: loops, veiled, ifaces, maps, wideKeys, modest, calm, conditions, laid).
  DERIVED. THE GIVEN ROWS OF THIS SEAT. 8 by the template 'for every input the law returns true; each argument reads behind the call as it read before'; 0 by the template 'total and deterministic' (their statements: YtccokgnohmafjaaTotals.lean).
  GIVEN WITH THE SEED: the statements are not yours to turn. If you find one false, say at which input.
  Laid BY PROGRAM, IN A SANDBOX (cutbox-rows.mjs): the forced cells as the released guide's own fill.sh prints them over the translation 72e116876a7a36a2… (all of the seat's roots in one cut). By AI agents, Wed Nov 11 2026. No macro, syntax, notation, axiom, sorry.
-/
import Derived.Test.YtccokgnohmafjaaChecked
import GoSem.Claim
import GoSem.ClaimJoined
import GoSem.ClaimMapViews
import Derived.JoinedTies
import Derived.KernelRfl
namespace Go.Proofs.Ytccokgnohmafjaa
/- THE CELL 'sum', in the pinned program and in every row, IS THE sha256 OF THE DUMP (.gsa) THAT YtccokgnohmafjaaProg.lean LOADS. Nothing in Lean hashes anything: it is a label: what it is worth is what the hold of that sum in a sandbox is worth. -/
noncomputable def Try.pinned : Pinned := { name := "ytccokgnohmafjaa", sum := "72e116876a7a36a224e38a890d5701484d76ddb9742f13eb28b0862b2a874494", checked := Try.checked }
namespace Rows
def none {H : Type} : Left H := { results := [], args := [] }

/-- 'vendmeterlaw.CheckRests': WHATEVER THE INPUT: true; the input reads as it did. -/
def checkRestsSpec : ChangeSpec := { name := "checkRests", fn := fun _ => fun
  | [d] => { results := [.lit (.bool true)], args := [d] }
  | _ => none }
def checkRestsRow : OpenClaim := { program := "ytccokgnohmafjaa", sum := "72e116876a7a36a224e38a890d5701484d76ddb9742f13eb28b0862b2a874494", func := "vendmeter/vendmeterlaw.CheckRests", spec := "checkRests", apart := false }
def CheckRestsSaid : Prop := checkRestsRow.holds Try.pinned (OpenSpec.ofChange checkRestsSpec)

/-- ITS FALSE NEIGHBOUR: 'it returns false'. Refute it at one input. -/
def checkRestsWrong : ChangeSpec := { name := "checkRests", fn := fun _ => fun
  | [d] => { results := [.lit (.bool false)], args := [d] }
  | _ => none }
def CheckRestsWrongFalsely : Prop := checkRestsRow.holds Try.pinned (OpenSpec.ofChange checkRestsWrong)

/-- 'vendmeterlaw.CheckGoods': WHATEVER THE INPUT: true; the input reads as it did. -/
def checkGoodsSpec : ChangeSpec := { name := "checkGoods", fn := fun _ => fun
  | [d] => { results := [.lit (.bool true)], args := [d] }
  | _ => none }
def checkGoodsRow : OpenClaim := { program := "ytccokgnohmafjaa", sum := "72e116876a7a36a224e38a890d5701484d76ddb9742f13eb28b0862b2a874494", func := "vendmeter/vendmeterlaw.CheckGoods", spec := "checkGoods", apart := false }
def CheckGoodsSaid : Prop := checkGoodsRow.holds Try.pinned (OpenSpec.ofChange checkGoodsSpec)

/-- ITS FALSE NEIGHBOUR: 'it returns false'. Refute it at one input. -/
def checkGoodsWrong : ChangeSpec := { name := "checkGoods", fn := fun _ => fun
  | [d] => { results := [.lit (.bool false)], args := [d] }
  | _ => none }
def CheckGoodsWrongFalsely : Prop := checkGoodsRow.holds Try.pinned (OpenSpec.ofChange checkGoodsWrong)

/-- 'vendmeterlaw.CheckDigits': WHATEVER THE INPUT: true; the input reads as it did. -/
def checkDigitsSpec : ChangeSpec := { name := "checkDigits", fn := fun _ => fun
  | [d] => { results := [.lit (.bool true)], args := [d] }
  | _ => none }
def checkDigitsRow : OpenClaim := { program := "ytccokgnohmafjaa", sum := "72e116876a7a36a224e38a890d5701484d76ddb9742f13eb28b0862b2a874494", func := "vendmeter/vendmeterlaw.CheckDigits", spec := "checkDigits", recurses := true, apart := false }
def CheckDigitsSaid : Prop := checkDigitsRow.holds Try.pinned (OpenSpec.ofChange checkDigitsSpec)

/-- ITS FALSE NEIGHBOUR: 'it returns false'. Refute it at one input. -/
def checkDigitsWrong : ChangeSpec := { name := "checkDigits", fn := fun _ => fun
  | [d] => { results := [.lit (.bool false)], args := [d] }
  | _ => none }
def CheckDigitsWrongFalsely : Prop := checkDigitsRow.holds Try.pinned (OpenSpec.ofChange checkDigitsWrong)

/-- 'vendmeterlaw.CheckMuls': WHATEVER THE INPUT: true; the input reads as it did. -/
def checkMulsSpec : ChangeSpec := { name := "checkMuls", fn := fun _ => fun
  | [d1, d2] => { results := [.lit (.bool true)], args := [d1, d2] }
  | _ => none }
def checkMulsRow : OpenClaim := { program := "ytccokgnohmafjaa", sum := "72e116876a7a36a224e38a890d5701484d76ddb9742f13eb28b0862b2a874494", func := "vendmeter/vendmeterlaw.CheckMuls", spec := "checkMuls", unfollowed := true, recurses := true, apart := false }
def CheckMulsSaid : Prop := checkMulsRow.holds Try.pinned (OpenSpec.ofChange checkMulsSpec)

/-- ITS FALSE NEIGHBOUR: 'it returns false'. Refute it at one input. -/
def checkMulsWrong : ChangeSpec := { name := "checkMuls", fn := fun _ => fun
  | [d1, d2] => { results := [.lit (.bool false)], args := [d1, d2] }
  | _ => none }
def CheckMulsWrongFalsely : Prop := checkMulsRow.holds Try.pinned (OpenSpec.ofChange checkMulsWrong)

/-- 'vendmeterlaw.CalDays': WHATEVER THE INPUT: true; the input reads as it did. -/
def calDaysSpec : ChangeSpec := { name := "calDays", fn := fun _ => fun
  | [d] => { results := [.lit (.bool true)], args := [d] }
  | _ => none }
def calDaysRow : OpenClaim := { program := "ytccokgnohmafjaa", sum := "72e116876a7a36a224e38a890d5701484d76ddb9742f13eb28b0862b2a874494", func := "vendmeter/vendmeterlaw.CalDays", spec := "calDays", apart := false }
def CalDaysSaid : Prop := calDaysRow.holds Try.pinned (OpenSpec.ofChange calDaysSpec)

/-- ITS FALSE NEIGHBOUR: 'it returns false'. Refute it at one input. -/
def calDaysWrong : ChangeSpec := { name := "calDays", fn := fun _ => fun
  | [d] => { results := [.lit (.bool false)], args := [d] }
  | _ => none }
def CalDaysWrongFalsely : Prop := calDaysRow.holds Try.pinned (OpenSpec.ofChange calDaysWrong)

/-- 'vendmeterlaw.CalSpans': WHATEVER THE INPUT: true; the input reads as it did. -/
def calSpansSpec : ChangeSpec := { name := "calSpans", fn := fun _ => fun
  | [d] => { results := [.lit (.bool true)], args := [d] }
  | _ => none }
def calSpansRow : OpenClaim := { program := "ytccokgnohmafjaa", sum := "72e116876a7a36a224e38a890d5701484d76ddb9742f13eb28b0862b2a874494", func := "vendmeter/vendmeterlaw.CalSpans", spec := "calSpans", apart := false }
def CalSpansSaid : Prop := calSpansRow.holds Try.pinned (OpenSpec.ofChange calSpansSpec)

/-- ITS FALSE NEIGHBOUR: 'it returns false'. Refute it at one input. -/
def calSpansWrong : ChangeSpec := { name := "calSpans", fn := fun _ => fun
  | [d] => { results := [.lit (.bool false)], args := [d] }
  | _ => none }
def CalSpansWrongFalsely : Prop := calSpansRow.holds Try.pinned (OpenSpec.ofChange calSpansWrong)

/-- 'vendmeterlaw.CalDates': WHATEVER THE INPUT: true; the input reads as it did. -/
def calDatesSpec : ChangeSpec := { name := "calDates", fn := fun _ => fun
  | [d] => { results := [.lit (.bool true)], args := [d] }
  | _ => none }
def calDatesRow : OpenClaim := { program := "ytccokgnohmafjaa", sum := "72e116876a7a36a224e38a890d5701484d76ddb9742f13eb28b0862b2a874494", func := "vendmeter/vendmeterlaw.CalDates", spec := "calDates", apart := false }
def CalDatesSaid : Prop := calDatesRow.holds Try.pinned (OpenSpec.ofChange calDatesSpec)

/-- ITS FALSE NEIGHBOUR: 'it returns false'. Refute it at one input. -/
def calDatesWrong : ChangeSpec := { name := "calDates", fn := fun _ => fun
  | [d] => { results := [.lit (.bool false)], args := [d] }
  | _ => none }
def CalDatesWrongFalsely : Prop := calDatesRow.holds Try.pinned (OpenSpec.ofChange calDatesWrong)

/-- 'vendmeterlaw.CalMonths': WHATEVER THE INPUT: true; the input reads as it did. -/
def calMonthsSpec : ChangeSpec := { name := "calMonths", fn := fun _ => fun
  | [d] => { results := [.lit (.bool true)], args := [d] }
  | _ => none }
def calMonthsRow : OpenClaim := { program := "ytccokgnohmafjaa", sum := "72e116876a7a36a224e38a890d5701484d76ddb9742f13eb28b0862b2a874494", func := "vendmeter/vendmeterlaw.CalMonths", spec := "calMonths", apart := false }
def CalMonthsSaid : Prop := calMonthsRow.holds Try.pinned (OpenSpec.ofChange calMonthsSpec)

/-- ITS FALSE NEIGHBOUR: 'it returns false'. Refute it at one input. -/
def calMonthsWrong : ChangeSpec := { name := "calMonths", fn := fun _ => fun
  | [d] => { results := [.lit (.bool false)], args := [d] }
  | _ => none }
def CalMonthsWrongFalsely : Prop := calMonthsRow.holds Try.pinned (OpenSpec.ofChange calMonthsWrong)

/- THE SECOND FORM. 'bulk': how many values and letters a reading holds, each counted each time it is reached (what is shared counts as often as it is met; a slice's spare places count too). A statement '..UptoSaid' is the law's where the arguments, and the package variables that the reading takes, are together of bulk at most 1048576: NARROWER than '..Said'. Prove '..Said' where nothing that the law and all that it calls make is longer than what came in: it says more and counts as full. Else prove '..UptoSaid'. A law counts once. -/
mutual
def uptoBulk {H : Type} : DataW H → Nat
  | .lit (.string bytes) => bytes.length + 1
  | .lit _ => 1
  | .nil => 1
  | .ptr d => uptoBulk d + 1
  | .slice elems spare => uptoBulkAll elems + uptoBulkAll spare + 1
  | .agg parts => uptoBulkAll parts + 1
  | .iface _ d => uptoBulk d + 1
  | .map entries => uptoBulkEntries entries + 1
  | .held _ => 1
def uptoBulkAll {H : Type} : List (DataW H) → Nat
  | [] => 0
  | d :: r => uptoBulk d + uptoBulkAll r
def uptoBulkEntries {H : Type} : List (Lit × DataW H) → Nat
  | [] => 0
  | x :: r => uptoBulkEntry x + uptoBulkEntries r
def uptoBulkEntry {H : Type} : Lit × DataW H → Nat
  | (.string bytes, d) => bytes.length + uptoBulk d + 1
  | (_, d) => uptoBulk d + 1
 end
def uptoSmall : (H : Type) → List (DataW H) → Bool := fun _ ds => decide (uptoBulkAll ds ≤ 1048576)
def OpenSpec.upto (s : _root_.Go.ChangeSpec) : _root_.Go.OpenSpec := { _root_.Go.OpenSpec.ofChange s with cond := some uptoSmall }

/-- 'vendmeterlaw.CheckRests', WHERE WHAT IT READS IS OF BULK AT MOST 1048576: true; the input reads as it did. -/
def checkRestsUptoRow : OpenClaim := { program := "ytccokgnohmafjaa", sum := "72e116876a7a36a224e38a890d5701484d76ddb9742f13eb28b0862b2a874494", func := "vendmeter/vendmeterlaw.CheckRests", spec := "checkRests", apart := false, narrowed := true }
def CheckRestsUptoSaid : Prop := checkRestsUptoRow.holds Try.pinned (OpenSpec.upto checkRestsSpec)

/-- 'vendmeterlaw.CheckGoods', WHERE WHAT IT READS IS OF BULK AT MOST 1048576: true; the input reads as it did. -/
def checkGoodsUptoRow : OpenClaim := { program := "ytccokgnohmafjaa", sum := "72e116876a7a36a224e38a890d5701484d76ddb9742f13eb28b0862b2a874494", func := "vendmeter/vendmeterlaw.CheckGoods", spec := "checkGoods", apart := false, narrowed := true }
def CheckGoodsUptoSaid : Prop := checkGoodsUptoRow.holds Try.pinned (OpenSpec.upto checkGoodsSpec)

/-- 'vendmeterlaw.CheckDigits', WHERE WHAT IT READS IS OF BULK AT MOST 1048576: true; the input reads as it did. -/
def checkDigitsUptoRow : OpenClaim := { program := "ytccokgnohmafjaa", sum := "72e116876a7a36a224e38a890d5701484d76ddb9742f13eb28b0862b2a874494", func := "vendmeter/vendmeterlaw.CheckDigits", spec := "checkDigits", recurses := true, apart := false, narrowed := true }
def CheckDigitsUptoSaid : Prop := checkDigitsUptoRow.holds Try.pinned (OpenSpec.upto checkDigitsSpec)

/-- 'vendmeterlaw.CheckMuls', WHERE WHAT IT READS IS OF BULK AT MOST 1048576: true; the input reads as it did. -/
def checkMulsUptoRow : OpenClaim := { program := "ytccokgnohmafjaa", sum := "72e116876a7a36a224e38a890d5701484d76ddb9742f13eb28b0862b2a874494", func := "vendmeter/vendmeterlaw.CheckMuls", spec := "checkMuls", unfollowed := true, recurses := true, apart := false, narrowed := true }
def CheckMulsUptoSaid : Prop := checkMulsUptoRow.holds Try.pinned (OpenSpec.upto checkMulsSpec)

/-- 'vendmeterlaw.CalDays', WHERE WHAT IT READS IS OF BULK AT MOST 1048576: true; the input reads as it did. -/
def calDaysUptoRow : OpenClaim := { program := "ytccokgnohmafjaa", sum := "72e116876a7a36a224e38a890d5701484d76ddb9742f13eb28b0862b2a874494", func := "vendmeter/vendmeterlaw.CalDays", spec := "calDays", apart := false, narrowed := true }
def CalDaysUptoSaid : Prop := calDaysUptoRow.holds Try.pinned (OpenSpec.upto calDaysSpec)

/-- 'vendmeterlaw.CalSpans', WHERE WHAT IT READS IS OF BULK AT MOST 1048576: true; the input reads as it did. -/
def calSpansUptoRow : OpenClaim := { program := "ytccokgnohmafjaa", sum := "72e116876a7a36a224e38a890d5701484d76ddb9742f13eb28b0862b2a874494", func := "vendmeter/vendmeterlaw.CalSpans", spec := "calSpans", apart := false, narrowed := true }
def CalSpansUptoSaid : Prop := calSpansUptoRow.holds Try.pinned (OpenSpec.upto calSpansSpec)

/-- 'vendmeterlaw.CalDates', WHERE WHAT IT READS IS OF BULK AT MOST 1048576: true; the input reads as it did. -/
def calDatesUptoRow : OpenClaim := { program := "ytccokgnohmafjaa", sum := "72e116876a7a36a224e38a890d5701484d76ddb9742f13eb28b0862b2a874494", func := "vendmeter/vendmeterlaw.CalDates", spec := "calDates", apart := false, narrowed := true }
def CalDatesUptoSaid : Prop := calDatesUptoRow.holds Try.pinned (OpenSpec.upto calDatesSpec)

/-- 'vendmeterlaw.CalMonths', WHERE WHAT IT READS IS OF BULK AT MOST 1048576: true; the input reads as it did. -/
def calMonthsUptoRow : OpenClaim := { program := "ytccokgnohmafjaa", sum := "72e116876a7a36a224e38a890d5701484d76ddb9742f13eb28b0862b2a874494", func := "vendmeter/vendmeterlaw.CalMonths", spec := "calMonths", apart := false, narrowed := true }
def CalMonthsUptoSaid : Prop := calMonthsUptoRow.holds Try.pinned (OpenSpec.upto calMonthsSpec)

end Rows
end Go.Proofs.Ytccokgnohmafjaa
