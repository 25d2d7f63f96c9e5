/-
  No cell of these rows narrows 'for every input' (looked for: loops, veiled, ifaces, maps, wideKeys, modest, calm, conditions, laid).
  DERIVED. THE GIVEN ROWS OF THIS SEAT. 12 by the template 'for every input the law returns true; each argument reads behind the call as it read before'; 0 by the template 'total and deterministic' (their statements: YthmmadniaakapaaTotals.lean).
  GIVEN WITH THE SEED: the statements are not yours to turn. If you find one false, say at which input.
  Laid BY PROGRAM, IN A SANDBOX (cutbox-rows.mjs): the forced cells as the released guide's own fill.sh prints them over the translation 3db198b7141b1b70… (all of the seat's roots in one cut). By AI agents, Wed Nov 11 2026. No macro, syntax, notation, axiom, sorry.
-/
import Derived.Test.YthmmadniaakapaaChecked
import GoSem.Claim
import GoSem.ClaimJoined
import GoSem.ClaimMapViews
import Derived.JoinedTies
import Derived.KernelRfl
namespace Go.Proofs.Ythmmadniaakapaa
/- THE CELL 'sum', in the pinned program and in every row, IS THE sha256 OF THE DUMP (.gsa) THAT YthmmadniaakapaaProg.lean LOADS. Nothing in Lean hashes anything: it is a label: what it is worth is what the hold of that sum in a sandbox is worth. -/
noncomputable def Try.pinned : Pinned := { name := "ythmmadniaakapaa", sum := "3db198b7141b1b70cc451520c6bbb80a617ecc4f0cca2c29766e64d9a6fff277", checked := Try.checked }
namespace Rows
def none {H : Type} : Left H := { results := [], args := [] }

/-- 'vendmeterlaw.DiskReplays': WHATEVER THE INPUT: true; the input reads as it did. -/
def diskReplaysSpec : ChangeSpec := { name := "diskReplays", fn := fun _ => fun
  | [d] => { results := [.lit (.bool true)], args := [d] }
  | _ => none }
def diskReplaysRow : OpenClaim := { program := "ythmmadniaakapaa", sum := "3db198b7141b1b70cc451520c6bbb80a617ecc4f0cca2c29766e64d9a6fff277", func := "vendmeter/vendmeterlaw.DiskReplays", spec := "diskReplays", unfollowed := true, recurses := true, plainKeys := false, apart := false }
def DiskReplaysSaid : Prop := diskReplaysRow.holds Try.pinned (OpenSpec.ofChange diskReplaysSpec)

/-- ITS FALSE NEIGHBOUR: 'it returns false'. Refute it at one input. -/
def diskReplaysWrong : ChangeSpec := { name := "diskReplays", fn := fun _ => fun
  | [d] => { results := [.lit (.bool false)], args := [d] }
  | _ => none }
def DiskReplaysWrongFalsely : Prop := diskReplaysRow.holds Try.pinned (OpenSpec.ofChange diskReplaysWrong)

/-- 'vendmeterlaw.PocketTicks': WHATEVER THE INPUT: true; the input reads as it did. -/
def pocketTicksSpec : ChangeSpec := { name := "pocketTicks", fn := fun _ => fun
  | [d1, d2] => { results := [.lit (.bool true)], args := [d1, d2] }
  | _ => none }
def pocketTicksRow : OpenClaim := { program := "ythmmadniaakapaa", sum := "3db198b7141b1b70cc451520c6bbb80a617ecc4f0cca2c29766e64d9a6fff277", func := "vendmeter/vendmeterlaw.PocketTicks", spec := "pocketTicks", plainKeys := false, apart := false }
def PocketTicksSaid : Prop := pocketTicksRow.holds Try.pinned (OpenSpec.ofChange pocketTicksSpec)

/-- ITS FALSE NEIGHBOUR: 'it returns false'. Refute it at one input. -/
def pocketTicksWrong : ChangeSpec := { name := "pocketTicks", fn := fun _ => fun
  | [d1, d2] => { results := [.lit (.bool false)], args := [d1, d2] }
  | _ => none }
def PocketTicksWrongFalsely : Prop := pocketTicksRow.holds Try.pinned (OpenSpec.ofChange pocketTicksWrong)

/-- 'vendmeterlaw.MeterKeys': WHATEVER THE INPUT: true; the input reads as it did. -/
def meterKeysSpec : ChangeSpec := { name := "meterKeys", fn := fun _ => fun
  | [d1, d2, d3] => { results := [.lit (.bool true)], args := [d1, d2, d3] }
  | _ => none }
def meterKeysRow : OpenClaim := { program := "ythmmadniaakapaa", sum := "3db198b7141b1b70cc451520c6bbb80a617ecc4f0cca2c29766e64d9a6fff277", func := "vendmeter/vendmeterlaw.MeterKeys", spec := "meterKeys", unfollowed := true, recurses := true, plainKeys := false, apart := false }
def MeterKeysSaid : Prop := meterKeysRow.holds Try.pinned (OpenSpec.ofChange meterKeysSpec)

/-- ITS FALSE NEIGHBOUR: 'it returns false'. Refute it at one input. -/
def meterKeysWrong : ChangeSpec := { name := "meterKeys", fn := fun _ => fun
  | [d1, d2, d3] => { results := [.lit (.bool false)], args := [d1, d2, d3] }
  | _ => none }
def MeterKeysWrongFalsely : Prop := meterKeysRow.holds Try.pinned (OpenSpec.ofChange meterKeysWrong)

/-- 'vendmeterlaw.AccountChecks': WHATEVER THE INPUT: true; the input reads as it did. -/
def accountChecksSpec : ChangeSpec := { name := "accountChecks", fn := fun _ => fun
  | [d] => { results := [.lit (.bool true)], args := [d] }
  | _ => none }
def accountChecksRow : OpenClaim := { program := "ythmmadniaakapaa", sum := "3db198b7141b1b70cc451520c6bbb80a617ecc4f0cca2c29766e64d9a6fff277", func := "vendmeter/vendmeterlaw.AccountChecks", spec := "accountChecks", inPlace := ["internal/reflectlite.ValueOf", "(internal/reflectlite.Value).Len"], unfollowed := true, recurses := true, plainKeys := false, apart := false }
def AccountChecksSaid : Prop := accountChecksRow.holds Try.pinned (OpenSpec.ofChange accountChecksSpec)

/-- ITS FALSE NEIGHBOUR: 'it returns false'. Refute it at one input. -/
def accountChecksWrong : ChangeSpec := { name := "accountChecks", fn := fun _ => fun
  | [d] => { results := [.lit (.bool false)], args := [d] }
  | _ => none }
def AccountChecksWrongFalsely : Prop := accountChecksRow.holds Try.pinned (OpenSpec.ofChange accountChecksWrong)

/-- 'vendmeterlaw.AccountRolls': WHATEVER THE INPUT: true; the input reads as it did. -/
def accountRollsSpec : ChangeSpec := { name := "accountRolls", fn := fun _ => fun
  | [d1, d2] => { results := [.lit (.bool true)], args := [d1, d2] }
  | _ => none }
def accountRollsRow : OpenClaim := { program := "ythmmadniaakapaa", sum := "3db198b7141b1b70cc451520c6bbb80a617ecc4f0cca2c29766e64d9a6fff277", func := "vendmeter/vendmeterlaw.AccountRolls", spec := "accountRolls", inPlace := ["internal/reflectlite.ValueOf", "(internal/reflectlite.Value).Len"], unfollowed := true, recurses := true, plainKeys := false, apart := false }
def AccountRollsSaid : Prop := accountRollsRow.holds Try.pinned (OpenSpec.ofChange accountRollsSpec)

/-- ITS FALSE NEIGHBOUR: 'it returns false'. Refute it at one input. -/
def accountRollsWrong : ChangeSpec := { name := "accountRolls", fn := fun _ => fun
  | [d1, d2] => { results := [.lit (.bool false)], args := [d1, d2] }
  | _ => none }
def AccountRollsWrongFalsely : Prop := accountRollsRow.holds Try.pinned (OpenSpec.ofChange accountRollsWrong)

/-- 'vendmeterlaw.AccountGrants': WHATEVER THE INPUT: true; the input reads as it did. -/
def accountGrantsSpec : ChangeSpec := { name := "accountGrants", fn := fun _ => fun
  | [d1, d2, d3] => { results := [.lit (.bool true)], args := [d1, d2, d3] }
  | _ => none }
def accountGrantsRow : OpenClaim := { program := "ythmmadniaakapaa", sum := "3db198b7141b1b70cc451520c6bbb80a617ecc4f0cca2c29766e64d9a6fff277", func := "vendmeter/vendmeterlaw.AccountGrants", spec := "accountGrants", inPlace := ["internal/reflectlite.ValueOf", "(internal/reflectlite.Value).Len"], unfollowed := true, recurses := true, plainKeys := false, apart := false }
def AccountGrantsSaid : Prop := accountGrantsRow.holds Try.pinned (OpenSpec.ofChange accountGrantsSpec)

/-- ITS FALSE NEIGHBOUR: 'it returns false'. Refute it at one input. -/
def accountGrantsWrong : ChangeSpec := { name := "accountGrants", fn := fun _ => fun
  | [d1, d2, d3] => { results := [.lit (.bool false)], args := [d1, d2, d3] }
  | _ => none }
def AccountGrantsWrongFalsely : Prop := accountGrantsRow.holds Try.pinned (OpenSpec.ofChange accountGrantsWrong)

/-- 'vendmeterlaw.AccountSells': WHATEVER THE INPUT: true; the input reads as it did. -/
def accountSellsSpec : ChangeSpec := { name := "accountSells", fn := fun _ => fun
  | [d1, d2, d3, d4] => { results := [.lit (.bool true)], args := [d1, d2, d3, d4] }
  | _ => none }
def accountSellsRow : OpenClaim := { program := "ythmmadniaakapaa", sum := "3db198b7141b1b70cc451520c6bbb80a617ecc4f0cca2c29766e64d9a6fff277", func := "vendmeter/vendmeterlaw.AccountSells", spec := "accountSells", inPlace := ["internal/reflectlite.ValueOf", "(internal/reflectlite.Value).Len"], unfollowed := true, recurses := true, plainKeys := false, apart := false }
def AccountSellsSaid : Prop := accountSellsRow.holds Try.pinned (OpenSpec.ofChange accountSellsSpec)

/-- ITS FALSE NEIGHBOUR: 'it returns false'. Refute it at one input. -/
def accountSellsWrong : ChangeSpec := { name := "accountSells", fn := fun _ => fun
  | [d1, d2, d3, d4] => { results := [.lit (.bool false)], args := [d1, d2, d3, d4] }
  | _ => none }
def AccountSellsWrongFalsely : Prop := accountSellsRow.holds Try.pinned (OpenSpec.ofChange accountSellsWrong)

/-- 'vendmeterlaw.AccountRekeys': WHATEVER THE INPUT: true; the input reads as it did. -/
def accountRekeysSpec : ChangeSpec := { name := "accountRekeys", fn := fun _ => fun
  | [d] => { results := [.lit (.bool true)], args := [d] }
  | _ => none }
def accountRekeysRow : OpenClaim := { program := "ythmmadniaakapaa", sum := "3db198b7141b1b70cc451520c6bbb80a617ecc4f0cca2c29766e64d9a6fff277", func := "vendmeter/vendmeterlaw.AccountRekeys", spec := "accountRekeys", plainKeys := false, apart := false }
def AccountRekeysSaid : Prop := accountRekeysRow.holds Try.pinned (OpenSpec.ofChange accountRekeysSpec)

/-- ITS FALSE NEIGHBOUR: 'it returns false'. Refute it at one input. -/
def accountRekeysWrong : ChangeSpec := { name := "accountRekeys", fn := fun _ => fun
  | [d] => { results := [.lit (.bool false)], args := [d] }
  | _ => none }
def AccountRekeysWrongFalsely : Prop := accountRekeysRow.holds Try.pinned (OpenSpec.ofChange accountRekeysWrong)

/-- 'vendmeterlaw.BookEncodes': WHATEVER THE INPUT: true; the input reads as it did. -/
def bookEncodesSpec : ChangeSpec := { name := "bookEncodes", fn := fun _ => fun
  | [d] => { results := [.lit (.bool true)], args := [d] }
  | _ => none }
def bookEncodesRow : OpenClaim := { program := "ythmmadniaakapaa", sum := "3db198b7141b1b70cc451520c6bbb80a617ecc4f0cca2c29766e64d9a6fff277", func := "vendmeter/vendmeterlaw.BookEncodes", spec := "bookEncodes", unfollowed := true, recurses := true, plainKeys := false, apart := false }
def BookEncodesSaid : Prop := bookEncodesRow.holds Try.pinned (OpenSpec.ofChange bookEncodesSpec)

/-- ITS FALSE NEIGHBOUR: 'it returns false'. Refute it at one input. -/
def bookEncodesWrong : ChangeSpec := { name := "bookEncodes", fn := fun _ => fun
  | [d] => { results := [.lit (.bool false)], args := [d] }
  | _ => none }
def BookEncodesWrongFalsely : Prop := bookEncodesRow.holds Try.pinned (OpenSpec.ofChange bookEncodesWrong)

/-- 'vendmeterlaw.BookDecodes': WHATEVER THE INPUT: true; the input reads as it did. -/
def bookDecodesSpec : ChangeSpec := { name := "bookDecodes", fn := fun _ => fun
  | [d] => { results := [.lit (.bool true)], args := [d] }
  | _ => none }
def bookDecodesRow : OpenClaim := { program := "ythmmadniaakapaa", sum := "3db198b7141b1b70cc451520c6bbb80a617ecc4f0cca2c29766e64d9a6fff277", func := "vendmeter/vendmeterlaw.BookDecodes", spec := "bookDecodes", unfollowed := true, recurses := true, plainKeys := false, apart := false }
def BookDecodesSaid : Prop := bookDecodesRow.holds Try.pinned (OpenSpec.ofChange bookDecodesSpec)

/-- ITS FALSE NEIGHBOUR: 'it returns false'. Refute it at one input. -/
def bookDecodesWrong : ChangeSpec := { name := "bookDecodes", fn := fun _ => fun
  | [d] => { results := [.lit (.bool false)], args := [d] }
  | _ => none }
def BookDecodesWrongFalsely : Prop := bookDecodesRow.holds Try.pinned (OpenSpec.ofChange bookDecodesWrong)

/-- 'vendmeterlaw.TariffBills': WHATEVER THE INPUT: true; the input reads as it did. -/
def tariffBillsSpec : ChangeSpec := { name := "tariffBills", fn := fun _ => fun
  | [d1, d2, d3] => { results := [.lit (.bool true)], args := [d1, d2, d3] }
  | _ => none }
def tariffBillsRow : OpenClaim := { program := "ythmmadniaakapaa", sum := "3db198b7141b1b70cc451520c6bbb80a617ecc4f0cca2c29766e64d9a6fff277", func := "vendmeter/vendmeterlaw.TariffBills", spec := "tariffBills", inPlace := ["internal/reflectlite.ValueOf", "(internal/reflectlite.Value).Len"], unfollowed := true, recurses := true, plainKeys := false, apart := false }
def TariffBillsSaid : Prop := tariffBillsRow.holds Try.pinned (OpenSpec.ofChange tariffBillsSpec)

/-- ITS FALSE NEIGHBOUR: 'it returns false'. Refute it at one input. -/
def tariffBillsWrong : ChangeSpec := { name := "tariffBills", fn := fun _ => fun
  | [d1, d2, d3] => { results := [.lit (.bool false)], args := [d1, d2, d3] }
  | _ => none }
def TariffBillsWrongFalsely : Prop := tariffBillsRow.holds Try.pinned (OpenSpec.ofChange tariffBillsWrong)

/-- 'vendmeterlaw.TariffMosts': WHATEVER THE INPUT: true; the input reads as it did. -/
def tariffMostsSpec : ChangeSpec := { name := "tariffMosts", fn := fun _ => fun
  | [d1, d2, d3] => { results := [.lit (.bool true)], args := [d1, d2, d3] }
  | _ => none }
def tariffMostsRow : OpenClaim := { program := "ythmmadniaakapaa", sum := "3db198b7141b1b70cc451520c6bbb80a617ecc4f0cca2c29766e64d9a6fff277", func := "vendmeter/vendmeterlaw.TariffMosts", spec := "tariffMosts", inPlace := ["internal/reflectlite.ValueOf", "(internal/reflectlite.Value).Len"], unfollowed := true, recurses := true, plainKeys := false, apart := false }
def TariffMostsSaid : Prop := tariffMostsRow.holds Try.pinned (OpenSpec.ofChange tariffMostsSpec)

/-- ITS FALSE NEIGHBOUR: 'it returns false'. Refute it at one input. -/
def tariffMostsWrong : ChangeSpec := { name := "tariffMosts", fn := fun _ => fun
  | [d1, d2, d3] => { results := [.lit (.bool false)], args := [d1, d2, d3] }
  | _ => none }
def TariffMostsWrongFalsely : Prop := tariffMostsRow.holds Try.pinned (OpenSpec.ofChange tariffMostsWrong)

/- THE SECOND FORM. 'bulk': how many values and letters a reading holds, each counted each time it is reached (what is shared counts as often as it is met; a slice's spare places count too). A statement '..UptoSaid' is the law's where the arguments, and the package variables that the reading takes, are together of bulk at most 1048576: NARROWER than '..Said'. Prove '..Said' where nothing that the law and all that it calls make is longer than what came in: it says more and counts as full. Else prove '..UptoSaid'. A law counts once. -/
mutual
def uptoBulk {H : Type} : DataW H → Nat
  | .lit (.string bytes) => bytes.length + 1
  | .lit _ => 1
  | .nil => 1
  | .ptr d => uptoBulk d + 1
  | .slice elems spare => uptoBulkAll elems + uptoBulkAll spare + 1
  | .agg parts => uptoBulkAll parts + 1
  | .iface _ d => uptoBulk d + 1
  | .map entries => uptoBulkEntries entries + 1
  | .held _ => 1
def uptoBulkAll {H : Type} : List (DataW H) → Nat
  | [] => 0
  | d :: r => uptoBulk d + uptoBulkAll r
def uptoBulkEntries {H : Type} : List (Lit × DataW H) → Nat
  | [] => 0
  | x :: r => uptoBulkEntry x + uptoBulkEntries r
def uptoBulkEntry {H : Type} : Lit × DataW H → Nat
  | (.string bytes, d) => bytes.length + uptoBulk d + 1
  | (_, d) => uptoBulk d + 1
 end
def uptoSmall : (H : Type) → List (DataW H) → Bool := fun _ ds => decide (uptoBulkAll ds ≤ 1048576)
def OpenSpec.upto (s : _root_.Go.ChangeSpec) : _root_.Go.OpenSpec := { _root_.Go.OpenSpec.ofChange s with cond := some uptoSmall }

/-- 'vendmeterlaw.DiskReplays', WHERE WHAT IT READS IS OF BULK AT MOST 1048576: true; the input reads as it did. -/
def diskReplaysUptoRow : OpenClaim := { program := "ythmmadniaakapaa", sum := "3db198b7141b1b70cc451520c6bbb80a617ecc4f0cca2c29766e64d9a6fff277", func := "vendmeter/vendmeterlaw.DiskReplays", spec := "diskReplays", unfollowed := true, recurses := true, plainKeys := false, apart := false, narrowed := true }
def DiskReplaysUptoSaid : Prop := diskReplaysUptoRow.holds Try.pinned (OpenSpec.upto diskReplaysSpec)

/-- 'vendmeterlaw.PocketTicks', WHERE WHAT IT READS IS OF BULK AT MOST 1048576: true; the input reads as it did. -/
def pocketTicksUptoRow : OpenClaim := { program := "ythmmadniaakapaa", sum := "3db198b7141b1b70cc451520c6bbb80a617ecc4f0cca2c29766e64d9a6fff277", func := "vendmeter/vendmeterlaw.PocketTicks", spec := "pocketTicks", plainKeys := false, apart := false, narrowed := true }
def PocketTicksUptoSaid : Prop := pocketTicksUptoRow.holds Try.pinned (OpenSpec.upto pocketTicksSpec)

/-- 'vendmeterlaw.MeterKeys', WHERE WHAT IT READS IS OF BULK AT MOST 1048576: true; the input reads as it did. -/
def meterKeysUptoRow : OpenClaim := { program := "ythmmadniaakapaa", sum := "3db198b7141b1b70cc451520c6bbb80a617ecc4f0cca2c29766e64d9a6fff277", func := "vendmeter/vendmeterlaw.MeterKeys", spec := "meterKeys", unfollowed := true, recurses := true, plainKeys := false, apart := false, narrowed := true }
def MeterKeysUptoSaid : Prop := meterKeysUptoRow.holds Try.pinned (OpenSpec.upto meterKeysSpec)

/-- 'vendmeterlaw.AccountChecks', WHERE WHAT IT READS IS OF BULK AT MOST 1048576: true; the input reads as it did. -/
def accountChecksUptoRow : OpenClaim := { program := "ythmmadniaakapaa", sum := "3db198b7141b1b70cc451520c6bbb80a617ecc4f0cca2c29766e64d9a6fff277", func := "vendmeter/vendmeterlaw.AccountChecks", spec := "accountChecks", inPlace := ["internal/reflectlite.ValueOf", "(internal/reflectlite.Value).Len"], unfollowed := true, recurses := true, plainKeys := false, apart := false, narrowed := true }
def AccountChecksUptoSaid : Prop := accountChecksUptoRow.holds Try.pinned (OpenSpec.upto accountChecksSpec)

/-- 'vendmeterlaw.AccountRolls', WHERE WHAT IT READS IS OF BULK AT MOST 1048576: true; the input reads as it did. -/
def accountRollsUptoRow : OpenClaim := { program := "ythmmadniaakapaa", sum := "3db198b7141b1b70cc451520c6bbb80a617ecc4f0cca2c29766e64d9a6fff277", func := "vendmeter/vendmeterlaw.AccountRolls", spec := "accountRolls", inPlace := ["internal/reflectlite.ValueOf", "(internal/reflectlite.Value).Len"], unfollowed := true, recurses := true, plainKeys := false, apart := false, narrowed := true }
def AccountRollsUptoSaid : Prop := accountRollsUptoRow.holds Try.pinned (OpenSpec.upto accountRollsSpec)

/-- 'vendmeterlaw.AccountGrants', WHERE WHAT IT READS IS OF BULK AT MOST 1048576: true; the input reads as it did. -/
def accountGrantsUptoRow : OpenClaim := { program := "ythmmadniaakapaa", sum := "3db198b7141b1b70cc451520c6bbb80a617ecc4f0cca2c29766e64d9a6fff277", func := "vendmeter/vendmeterlaw.AccountGrants", spec := "accountGrants", inPlace := ["internal/reflectlite.ValueOf", "(internal/reflectlite.Value).Len"], unfollowed := true, recurses := true, plainKeys := false, apart := false, narrowed := true }
def AccountGrantsUptoSaid : Prop := accountGrantsUptoRow.holds Try.pinned (OpenSpec.upto accountGrantsSpec)

/-- 'vendmeterlaw.AccountSells', WHERE WHAT IT READS IS OF BULK AT MOST 1048576: true; the input reads as it did. -/
def accountSellsUptoRow : OpenClaim := { program := "ythmmadniaakapaa", sum := "3db198b7141b1b70cc451520c6bbb80a617ecc4f0cca2c29766e64d9a6fff277", func := "vendmeter/vendmeterlaw.AccountSells", spec := "accountSells", inPlace := ["internal/reflectlite.ValueOf", "(internal/reflectlite.Value).Len"], unfollowed := true, recurses := true, plainKeys := false, apart := false, narrowed := true }
def AccountSellsUptoSaid : Prop := accountSellsUptoRow.holds Try.pinned (OpenSpec.upto accountSellsSpec)

/-- 'vendmeterlaw.AccountRekeys', WHERE WHAT IT READS IS OF BULK AT MOST 1048576: true; the input reads as it did. -/
def accountRekeysUptoRow : OpenClaim := { program := "ythmmadniaakapaa", sum := "3db198b7141b1b70cc451520c6bbb80a617ecc4f0cca2c29766e64d9a6fff277", func := "vendmeter/vendmeterlaw.AccountRekeys", spec := "accountRekeys", plainKeys := false, apart := false, narrowed := true }
def AccountRekeysUptoSaid : Prop := accountRekeysUptoRow.holds Try.pinned (OpenSpec.upto accountRekeysSpec)

/-- 'vendmeterlaw.BookEncodes', WHERE WHAT IT READS IS OF BULK AT MOST 1048576: true; the input reads as it did. -/
def bookEncodesUptoRow : OpenClaim := { program := "ythmmadniaakapaa", sum := "3db198b7141b1b70cc451520c6bbb80a617ecc4f0cca2c29766e64d9a6fff277", func := "vendmeter/vendmeterlaw.BookEncodes", spec := "bookEncodes", unfollowed := true, recurses := true, plainKeys := false, apart := false, narrowed := true }
def BookEncodesUptoSaid : Prop := bookEncodesUptoRow.holds Try.pinned (OpenSpec.upto bookEncodesSpec)

/-- 'vendmeterlaw.BookDecodes', WHERE WHAT IT READS IS OF BULK AT MOST 1048576: true; the input reads as it did. -/
def bookDecodesUptoRow : OpenClaim := { program := "ythmmadniaakapaa", sum := "3db198b7141b1b70cc451520c6bbb80a617ecc4f0cca2c29766e64d9a6fff277", func := "vendmeter/vendmeterlaw.BookDecodes", spec := "bookDecodes", unfollowed := true, recurses := true, plainKeys := false, apart := false, narrowed := true }
def BookDecodesUptoSaid : Prop := bookDecodesUptoRow.holds Try.pinned (OpenSpec.upto bookDecodesSpec)

/-- 'vendmeterlaw.TariffBills', WHERE WHAT IT READS IS OF BULK AT MOST 1048576: true; the input reads as it did. -/
def tariffBillsUptoRow : OpenClaim := { program := "ythmmadniaakapaa", sum := "3db198b7141b1b70cc451520c6bbb80a617ecc4f0cca2c29766e64d9a6fff277", func := "vendmeter/vendmeterlaw.TariffBills", spec := "tariffBills", inPlace := ["internal/reflectlite.ValueOf", "(internal/reflectlite.Value).Len"], unfollowed := true, recurses := true, plainKeys := false, apart := false, narrowed := true }
def TariffBillsUptoSaid : Prop := tariffBillsUptoRow.holds Try.pinned (OpenSpec.upto tariffBillsSpec)

/-- 'vendmeterlaw.TariffMosts', WHERE WHAT IT READS IS OF BULK AT MOST 1048576: true; the input reads as it did. -/
def tariffMostsUptoRow : OpenClaim := { program := "ythmmadniaakapaa", sum := "3db198b7141b1b70cc451520c6bbb80a617ecc4f0cca2c29766e64d9a6fff277", func := "vendmeter/vendmeterlaw.TariffMosts", spec := "tariffMosts", inPlace := ["internal/reflectlite.ValueOf", "(internal/reflectlite.Value).Len"], unfollowed := true, recurses := true, plainKeys := false, apart := false, narrowed := true }
def TariffMostsUptoSaid : Prop := tariffMostsUptoRow.holds Try.pinned (OpenSpec.upto tariffMostsSpec)

end Rows
end Go.Proofs.Ythmmadniaakapaa
