/-
  No cell of these rows narrows 'for every input' (looked for: loops, veiled, ifaces, maps, wideKeys, modest, calm, conditions, laid).
  DERIVED. THE GIVEN ROWS OF THIS SEAT. 12 by the template 'for every input the law returns true; each argument reads behind the call as it read before'; 0 by the template 'total and deterministic' (their statements: YtbdabpllbfemfaaTotals.lean).
  GIVEN WITH THE SEED: the statements are not yours to turn. If you find one false, say at which input.
  Laid BY PROGRAM, IN A SANDBOX (cutbox-rows.mjs): the forced cells as the released guide's own fill.sh prints them over the translation 0a0a71157aa44901… (all of the seat's roots in one cut). By AI agents, Wed Nov 11 2026. No macro, syntax, notation, axiom, sorry.
-/
import Derived.Test.YtbdabpllbfemfaaChecked
import GoSem.Claim
import GoSem.ClaimJoined
import GoSem.ClaimMapViews
import Derived.JoinedTies
import Derived.KernelRfl
namespace Go.Proofs.Ytbdabpllbfemfaa
/- THE CELL 'sum', in the pinned program and in every row, IS THE sha256 OF THE DUMP (.gsa) THAT YtbdabpllbfemfaaProg.lean LOADS. Nothing in Lean hashes anything: it is a label: what it is worth is what the hold of that sum in a sandbox is worth. -/
noncomputable def Try.pinned : Pinned := { name := "ytbdabpllbfemfaa", sum := "0a0a71157aa44901193a57074decb4bfd48b63902f421611804b20e14bf0f2e8", checked := Try.checked }
namespace Rows
def none {H : Type} : Left H := { results := [], args := [] }

/-- 'vendmeterlaw.AccountOpens': WHATEVER THE INPUT: true; the input reads as it did. -/
def accountOpensSpec : ChangeSpec := { name := "accountOpens", fn := fun _ => fun
  | [d] => { results := [.lit (.bool true)], args := [d] }
  | _ => none }
def accountOpensRow : OpenClaim := { program := "ytbdabpllbfemfaa", sum := "0a0a71157aa44901193a57074decb4bfd48b63902f421611804b20e14bf0f2e8", func := "vendmeter/vendmeterlaw.AccountOpens", spec := "accountOpens", apart := false }
def AccountOpensSaid : Prop := accountOpensRow.holds Try.pinned (OpenSpec.ofChange accountOpensSpec)

/-- ITS FALSE NEIGHBOUR: 'it returns false'. Refute it at one input. -/
def accountOpensWrong : ChangeSpec := { name := "accountOpens", fn := fun _ => fun
  | [d] => { results := [.lit (.bool false)], args := [d] }
  | _ => none }
def AccountOpensWrongFalsely : Prop := accountOpensRow.holds Try.pinned (OpenSpec.ofChange accountOpensWrong)

/-- 'vendmeterlaw.AccountOwes': WHATEVER THE INPUT: true; the input reads as it did. -/
def accountOwesSpec : ChangeSpec := { name := "accountOwes", fn := fun _ => fun
  | [d1, d2] => { results := [.lit (.bool true)], args := [d1, d2] }
  | _ => none }
def accountOwesRow : OpenClaim := { program := "ytbdabpllbfemfaa", sum := "0a0a71157aa44901193a57074decb4bfd48b63902f421611804b20e14bf0f2e8", func := "vendmeter/vendmeterlaw.AccountOwes", spec := "accountOwes", apart := false }
def AccountOwesSaid : Prop := accountOwesRow.holds Try.pinned (OpenSpec.ofChange accountOwesSpec)

/-- ITS FALSE NEIGHBOUR: 'it returns false'. Refute it at one input. -/
def accountOwesWrong : ChangeSpec := { name := "accountOwes", fn := fun _ => fun
  | [d1, d2] => { results := [.lit (.bool false)], args := [d1, d2] }
  | _ => none }
def AccountOwesWrongFalsely : Prop := accountOwesRow.holds Try.pinned (OpenSpec.ofChange accountOwesWrong)

/-- 'vendmeterlaw.AccountRekeys': WHATEVER THE INPUT: true; the input reads as it did. -/
def accountRekeysSpec : ChangeSpec := { name := "accountRekeys", fn := fun _ => fun
  | [d] => { results := [.lit (.bool true)], args := [d] }
  | _ => none }
def accountRekeysRow : OpenClaim := { program := "ytbdabpllbfemfaa", sum := "0a0a71157aa44901193a57074decb4bfd48b63902f421611804b20e14bf0f2e8", func := "vendmeter/vendmeterlaw.AccountRekeys", spec := "accountRekeys", apart := false }
def AccountRekeysSaid : Prop := accountRekeysRow.holds Try.pinned (OpenSpec.ofChange accountRekeysSpec)

/-- ITS FALSE NEIGHBOUR: 'it returns false'. Refute it at one input. -/
def accountRekeysWrong : ChangeSpec := { name := "accountRekeys", fn := fun _ => fun
  | [d] => { results := [.lit (.bool false)], args := [d] }
  | _ => none }
def AccountRekeysWrongFalsely : Prop := accountRekeysRow.holds Try.pinned (OpenSpec.ofChange accountRekeysWrong)

/-- 'vendmeterlaw.AccountChecks': WHATEVER THE INPUT: true; the input reads as it did. -/
def accountChecksSpec : ChangeSpec := { name := "accountChecks", fn := fun _ => fun
  | [d] => { results := [.lit (.bool true)], args := [d] }
  | _ => none }
def accountChecksRow : OpenClaim := { program := "ytbdabpllbfemfaa", sum := "0a0a71157aa44901193a57074decb4bfd48b63902f421611804b20e14bf0f2e8", func := "vendmeter/vendmeterlaw.AccountChecks", spec := "accountChecks", inPlace := ["internal/reflectlite.ValueOf", "(internal/reflectlite.Value).Len"], unfollowed := true, recurses := true, apart := false }
def AccountChecksSaid : Prop := accountChecksRow.holds Try.pinned (OpenSpec.ofChange accountChecksSpec)

/-- ITS FALSE NEIGHBOUR: 'it returns false'. Refute it at one input. -/
def accountChecksWrong : ChangeSpec := { name := "accountChecks", fn := fun _ => fun
  | [d] => { results := [.lit (.bool false)], args := [d] }
  | _ => none }
def AccountChecksWrongFalsely : Prop := accountChecksRow.holds Try.pinned (OpenSpec.ofChange accountChecksWrong)

/-- 'vendmeterlaw.AccountRolls': WHATEVER THE INPUT: true; the input reads as it did. -/
def accountRollsSpec : ChangeSpec := { name := "accountRolls", fn := fun _ => fun
  | [d1, d2] => { results := [.lit (.bool true)], args := [d1, d2] }
  | _ => none }
def accountRollsRow : OpenClaim := { program := "ytbdabpllbfemfaa", sum := "0a0a71157aa44901193a57074decb4bfd48b63902f421611804b20e14bf0f2e8", func := "vendmeter/vendmeterlaw.AccountRolls", spec := "accountRolls", inPlace := ["internal/reflectlite.ValueOf", "(internal/reflectlite.Value).Len"], unfollowed := true, recurses := true, apart := false }
def AccountRollsSaid : Prop := accountRollsRow.holds Try.pinned (OpenSpec.ofChange accountRollsSpec)

/-- ITS FALSE NEIGHBOUR: 'it returns false'. Refute it at one input. -/
def accountRollsWrong : ChangeSpec := { name := "accountRolls", fn := fun _ => fun
  | [d1, d2] => { results := [.lit (.bool false)], args := [d1, d2] }
  | _ => none }
def AccountRollsWrongFalsely : Prop := accountRollsRow.holds Try.pinned (OpenSpec.ofChange accountRollsWrong)

/-- 'vendmeterlaw.AccountGrants': WHATEVER THE INPUT: true; the input reads as it did. -/
def accountGrantsSpec : ChangeSpec := { name := "accountGrants", fn := fun _ => fun
  | [d1, d2, d3] => { results := [.lit (.bool true)], args := [d1, d2, d3] }
  | _ => none }
def accountGrantsRow : OpenClaim := { program := "ytbdabpllbfemfaa", sum := "0a0a71157aa44901193a57074decb4bfd48b63902f421611804b20e14bf0f2e8", func := "vendmeter/vendmeterlaw.AccountGrants", spec := "accountGrants", inPlace := ["internal/reflectlite.ValueOf", "(internal/reflectlite.Value).Len"], unfollowed := true, recurses := true, apart := false }
def AccountGrantsSaid : Prop := accountGrantsRow.holds Try.pinned (OpenSpec.ofChange accountGrantsSpec)

/-- ITS FALSE NEIGHBOUR: 'it returns false'. Refute it at one input. -/
def accountGrantsWrong : ChangeSpec := { name := "accountGrants", fn := fun _ => fun
  | [d1, d2, d3] => { results := [.lit (.bool false)], args := [d1, d2, d3] }
  | _ => none }
def AccountGrantsWrongFalsely : Prop := accountGrantsRow.holds Try.pinned (OpenSpec.ofChange accountGrantsWrong)

/-- 'vendmeterlaw.AccountSells': WHATEVER THE INPUT: true; the input reads as it did. -/
def accountSellsSpec : ChangeSpec := { name := "accountSells", fn := fun _ => fun
  | [d1, d2, d3, d4] => { results := [.lit (.bool true)], args := [d1, d2, d3, d4] }
  | _ => none }
def accountSellsRow : OpenClaim := { program := "ytbdabpllbfemfaa", sum := "0a0a71157aa44901193a57074decb4bfd48b63902f421611804b20e14bf0f2e8", func := "vendmeter/vendmeterlaw.AccountSells", spec := "accountSells", inPlace := ["internal/reflectlite.ValueOf", "(internal/reflectlite.Value).Len"], unfollowed := true, recurses := true, apart := false }
def AccountSellsSaid : Prop := accountSellsRow.holds Try.pinned (OpenSpec.ofChange accountSellsSpec)

/-- ITS FALSE NEIGHBOUR: 'it returns false'. Refute it at one input. -/
def accountSellsWrong : ChangeSpec := { name := "accountSells", fn := fun _ => fun
  | [d1, d2, d3, d4] => { results := [.lit (.bool false)], args := [d1, d2, d3, d4] }
  | _ => none }
def AccountSellsWrongFalsely : Prop := accountSellsRow.holds Try.pinned (OpenSpec.ofChange accountSellsWrong)

/-- 'vendmeterlaw.BookEncodes': WHATEVER THE INPUT: true; the input reads as it did. -/
def bookEncodesSpec : ChangeSpec := { name := "bookEncodes", fn := fun _ => fun
  | [d] => { results := [.lit (.bool true)], args := [d] }
  | _ => none }
def bookEncodesRow : OpenClaim := { program := "ytbdabpllbfemfaa", sum := "0a0a71157aa44901193a57074decb4bfd48b63902f421611804b20e14bf0f2e8", func := "vendmeter/vendmeterlaw.BookEncodes", spec := "bookEncodes", unfollowed := true, recurses := true, apart := false }
def BookEncodesSaid : Prop := bookEncodesRow.holds Try.pinned (OpenSpec.ofChange bookEncodesSpec)

/-- ITS FALSE NEIGHBOUR: 'it returns false'. Refute it at one input. -/
def bookEncodesWrong : ChangeSpec := { name := "bookEncodes", fn := fun _ => fun
  | [d] => { results := [.lit (.bool false)], args := [d] }
  | _ => none }
def BookEncodesWrongFalsely : Prop := bookEncodesRow.holds Try.pinned (OpenSpec.ofChange bookEncodesWrong)

/-- 'vendmeterlaw.BookDecodes': WHATEVER THE INPUT: true; the input reads as it did. -/
def bookDecodesSpec : ChangeSpec := { name := "bookDecodes", fn := fun _ => fun
  | [d] => { results := [.lit (.bool true)], args := [d] }
  | _ => none }
def bookDecodesRow : OpenClaim := { program := "ytbdabpllbfemfaa", sum := "0a0a71157aa44901193a57074decb4bfd48b63902f421611804b20e14bf0f2e8", func := "vendmeter/vendmeterlaw.BookDecodes", spec := "bookDecodes", unfollowed := true, recurses := true, apart := false }
def BookDecodesSaid : Prop := bookDecodesRow.holds Try.pinned (OpenSpec.ofChange bookDecodesSpec)

/-- ITS FALSE NEIGHBOUR: 'it returns false'. Refute it at one input. -/
def bookDecodesWrong : ChangeSpec := { name := "bookDecodes", fn := fun _ => fun
  | [d] => { results := [.lit (.bool false)], args := [d] }
  | _ => none }
def BookDecodesWrongFalsely : Prop := bookDecodesRow.holds Try.pinned (OpenSpec.ofChange bookDecodesWrong)

/-- 'vendmeterlaw.BookOfs': WHATEVER THE INPUT: true; the input reads as it did. -/
def bookOfsSpec : ChangeSpec := { name := "bookOfs", fn := fun _ => fun
  | [d1, d2] => { results := [.lit (.bool true)], args := [d1, d2] }
  | _ => none }
def bookOfsRow : OpenClaim := { program := "ytbdabpllbfemfaa", sum := "0a0a71157aa44901193a57074decb4bfd48b63902f421611804b20e14bf0f2e8", func := "vendmeter/vendmeterlaw.BookOfs", spec := "bookOfs", inPlace := ["internal/reflectlite.ValueOf", "(internal/reflectlite.Value).Len"], unfollowed := true, recurses := true, apart := false }
def BookOfsSaid : Prop := bookOfsRow.holds Try.pinned (OpenSpec.ofChange bookOfsSpec)

/-- ITS FALSE NEIGHBOUR: 'it returns false'. Refute it at one input. -/
def bookOfsWrong : ChangeSpec := { name := "bookOfs", fn := fun _ => fun
  | [d1, d2] => { results := [.lit (.bool false)], args := [d1, d2] }
  | _ => none }
def BookOfsWrongFalsely : Prop := bookOfsRow.holds Try.pinned (OpenSpec.ofChange bookOfsWrong)

/-- 'vendmeterlaw.BookFinds': WHATEVER THE INPUT: true; the input reads as it did. -/
def bookFindsSpec : ChangeSpec := { name := "bookFinds", fn := fun _ => fun
  | [d1, d2] => { results := [.lit (.bool true)], args := [d1, d2] }
  | _ => none }
def bookFindsRow : OpenClaim := { program := "ytbdabpllbfemfaa", sum := "0a0a71157aa44901193a57074decb4bfd48b63902f421611804b20e14bf0f2e8", func := "vendmeter/vendmeterlaw.BookFinds", spec := "bookFinds", unfollowed := true, recurses := true, apart := false }
def BookFindsSaid : Prop := bookFindsRow.holds Try.pinned (OpenSpec.ofChange bookFindsSpec)

/-- ITS FALSE NEIGHBOUR: 'it returns false'. Refute it at one input. -/
def bookFindsWrong : ChangeSpec := { name := "bookFinds", fn := fun _ => fun
  | [d1, d2] => { results := [.lit (.bool false)], args := [d1, d2] }
  | _ => none }
def BookFindsWrongFalsely : Prop := bookFindsRow.holds Try.pinned (OpenSpec.ofChange bookFindsWrong)

/-- 'vendmeterlaw.VendLoads': WHATEVER THE INPUT: true; the input reads as it did. -/
def vendLoadsSpec : ChangeSpec := { name := "vendLoads", fn := fun _ => fun
  | [d1, d2] => { results := [.lit (.bool true)], args := [d1, d2] }
  | _ => none }
def vendLoadsRow : OpenClaim := { program := "ytbdabpllbfemfaa", sum := "0a0a71157aa44901193a57074decb4bfd48b63902f421611804b20e14bf0f2e8", func := "vendmeter/vendmeterlaw.VendLoads", spec := "vendLoads", inPlace := ["internal/reflectlite.ValueOf", "(internal/reflectlite.Value).Len"], unfollowed := true, recurses := true, apart := false }
def VendLoadsSaid : Prop := vendLoadsRow.holds Try.pinned (OpenSpec.ofChange vendLoadsSpec)

/-- ITS FALSE NEIGHBOUR: 'it returns false'. Refute it at one input. -/
def vendLoadsWrong : ChangeSpec := { name := "vendLoads", fn := fun _ => fun
  | [d1, d2] => { results := [.lit (.bool false)], args := [d1, d2] }
  | _ => none }
def VendLoadsWrongFalsely : Prop := vendLoadsRow.holds Try.pinned (OpenSpec.ofChange vendLoadsWrong)

/- THE SECOND FORM. 'bulk': how many values and letters a reading holds, each counted each time it is reached (what is shared counts as often as it is met; a slice's spare places count too). A statement '..UptoSaid' is the law's where the arguments, and the package variables that the reading takes, are together of bulk at most 1048576: NARROWER than '..Said'. Prove '..Said' where nothing that the law and all that it calls make is longer than what came in: it says more and counts as full. Else prove '..UptoSaid'. A law counts once. -/
mutual
def uptoBulk {H : Type} : DataW H → Nat
  | .lit (.string bytes) => bytes.length + 1
  | .lit _ => 1
  | .nil => 1
  | .ptr d => uptoBulk d + 1
  | .slice elems spare => uptoBulkAll elems + uptoBulkAll spare + 1
  | .agg parts => uptoBulkAll parts + 1
  | .iface _ d => uptoBulk d + 1
  | .map entries => uptoBulkEntries entries + 1
  | .held _ => 1
def uptoBulkAll {H : Type} : List (DataW H) → Nat
  | [] => 0
  | d :: r => uptoBulk d + uptoBulkAll r
def uptoBulkEntries {H : Type} : List (Lit × DataW H) → Nat
  | [] => 0
  | x :: r => uptoBulkEntry x + uptoBulkEntries r
def uptoBulkEntry {H : Type} : Lit × DataW H → Nat
  | (.string bytes, d) => bytes.length + uptoBulk d + 1
  | (_, d) => uptoBulk d + 1
 end
def uptoSmall : (H : Type) → List (DataW H) → Bool := fun _ ds => decide (uptoBulkAll ds ≤ 1048576)
def OpenSpec.upto (s : _root_.Go.ChangeSpec) : _root_.Go.OpenSpec := { _root_.Go.OpenSpec.ofChange s with cond := some uptoSmall }

/-- 'vendmeterlaw.AccountOpens', WHERE WHAT IT READS IS OF BULK AT MOST 1048576: true; the input reads as it did. -/
def accountOpensUptoRow : OpenClaim := { program := "ytbdabpllbfemfaa", sum := "0a0a71157aa44901193a57074decb4bfd48b63902f421611804b20e14bf0f2e8", func := "vendmeter/vendmeterlaw.AccountOpens", spec := "accountOpens", apart := false, narrowed := true }
def AccountOpensUptoSaid : Prop := accountOpensUptoRow.holds Try.pinned (OpenSpec.upto accountOpensSpec)

/-- 'vendmeterlaw.AccountOwes', WHERE WHAT IT READS IS OF BULK AT MOST 1048576: true; the input reads as it did. -/
def accountOwesUptoRow : OpenClaim := { program := "ytbdabpllbfemfaa", sum := "0a0a71157aa44901193a57074decb4bfd48b63902f421611804b20e14bf0f2e8", func := "vendmeter/vendmeterlaw.AccountOwes", spec := "accountOwes", apart := false, narrowed := true }
def AccountOwesUptoSaid : Prop := accountOwesUptoRow.holds Try.pinned (OpenSpec.upto accountOwesSpec)

/-- 'vendmeterlaw.AccountRekeys', WHERE WHAT IT READS IS OF BULK AT MOST 1048576: true; the input reads as it did. -/
def accountRekeysUptoRow : OpenClaim := { program := "ytbdabpllbfemfaa", sum := "0a0a71157aa44901193a57074decb4bfd48b63902f421611804b20e14bf0f2e8", func := "vendmeter/vendmeterlaw.AccountRekeys", spec := "accountRekeys", apart := false, narrowed := true }
def AccountRekeysUptoSaid : Prop := accountRekeysUptoRow.holds Try.pinned (OpenSpec.upto accountRekeysSpec)

/-- 'vendmeterlaw.AccountChecks', WHERE WHAT IT READS IS OF BULK AT MOST 1048576: true; the input reads as it did. -/
def accountChecksUptoRow : OpenClaim := { program := "ytbdabpllbfemfaa", sum := "0a0a71157aa44901193a57074decb4bfd48b63902f421611804b20e14bf0f2e8", func := "vendmeter/vendmeterlaw.AccountChecks", spec := "accountChecks", inPlace := ["internal/reflectlite.ValueOf", "(internal/reflectlite.Value).Len"], unfollowed := true, recurses := true, apart := false, narrowed := true }
def AccountChecksUptoSaid : Prop := accountChecksUptoRow.holds Try.pinned (OpenSpec.upto accountChecksSpec)

/-- 'vendmeterlaw.AccountRolls', WHERE WHAT IT READS IS OF BULK AT MOST 1048576: true; the input reads as it did. -/
def accountRollsUptoRow : OpenClaim := { program := "ytbdabpllbfemfaa", sum := "0a0a71157aa44901193a57074decb4bfd48b63902f421611804b20e14bf0f2e8", func := "vendmeter/vendmeterlaw.AccountRolls", spec := "accountRolls", inPlace := ["internal/reflectlite.ValueOf", "(internal/reflectlite.Value).Len"], unfollowed := true, recurses := true, apart := false, narrowed := true }
def AccountRollsUptoSaid : Prop := accountRollsUptoRow.holds Try.pinned (OpenSpec.upto accountRollsSpec)

/-- 'vendmeterlaw.AccountGrants', WHERE WHAT IT READS IS OF BULK AT MOST 1048576: true; the input reads as it did. -/
def accountGrantsUptoRow : OpenClaim := { program := "ytbdabpllbfemfaa", sum := "0a0a71157aa44901193a57074decb4bfd48b63902f421611804b20e14bf0f2e8", func := "vendmeter/vendmeterlaw.AccountGrants", spec := "accountGrants", inPlace := ["internal/reflectlite.ValueOf", "(internal/reflectlite.Value).Len"], unfollowed := true, recurses := true, apart := false, narrowed := true }
def AccountGrantsUptoSaid : Prop := accountGrantsUptoRow.holds Try.pinned (OpenSpec.upto accountGrantsSpec)

/-- 'vendmeterlaw.AccountSells', WHERE WHAT IT READS IS OF BULK AT MOST 1048576: true; the input reads as it did. -/
def accountSellsUptoRow : OpenClaim := { program := "ytbdabpllbfemfaa", sum := "0a0a71157aa44901193a57074decb4bfd48b63902f421611804b20e14bf0f2e8", func := "vendmeter/vendmeterlaw.AccountSells", spec := "accountSells", inPlace := ["internal/reflectlite.ValueOf", "(internal/reflectlite.Value).Len"], unfollowed := true, recurses := true, apart := false, narrowed := true }
def AccountSellsUptoSaid : Prop := accountSellsUptoRow.holds Try.pinned (OpenSpec.upto accountSellsSpec)

/-- 'vendmeterlaw.BookEncodes', WHERE WHAT IT READS IS OF BULK AT MOST 1048576: true; the input reads as it did. -/
def bookEncodesUptoRow : OpenClaim := { program := "ytbdabpllbfemfaa", sum := "0a0a71157aa44901193a57074decb4bfd48b63902f421611804b20e14bf0f2e8", func := "vendmeter/vendmeterlaw.BookEncodes", spec := "bookEncodes", unfollowed := true, recurses := true, apart := false, narrowed := true }
def BookEncodesUptoSaid : Prop := bookEncodesUptoRow.holds Try.pinned (OpenSpec.upto bookEncodesSpec)

/-- 'vendmeterlaw.BookDecodes', WHERE WHAT IT READS IS OF BULK AT MOST 1048576: true; the input reads as it did. -/
def bookDecodesUptoRow : OpenClaim := { program := "ytbdabpllbfemfaa", sum := "0a0a71157aa44901193a57074decb4bfd48b63902f421611804b20e14bf0f2e8", func := "vendmeter/vendmeterlaw.BookDecodes", spec := "bookDecodes", unfollowed := true, recurses := true, apart := false, narrowed := true }
def BookDecodesUptoSaid : Prop := bookDecodesUptoRow.holds Try.pinned (OpenSpec.upto bookDecodesSpec)

/-- 'vendmeterlaw.BookOfs', WHERE WHAT IT READS IS OF BULK AT MOST 1048576: true; the input reads as it did. -/
def bookOfsUptoRow : OpenClaim := { program := "ytbdabpllbfemfaa", sum := "0a0a71157aa44901193a57074decb4bfd48b63902f421611804b20e14bf0f2e8", func := "vendmeter/vendmeterlaw.BookOfs", spec := "bookOfs", inPlace := ["internal/reflectlite.ValueOf", "(internal/reflectlite.Value).Len"], unfollowed := true, recurses := true, apart := false, narrowed := true }
def BookOfsUptoSaid : Prop := bookOfsUptoRow.holds Try.pinned (OpenSpec.upto bookOfsSpec)

/-- 'vendmeterlaw.BookFinds', WHERE WHAT IT READS IS OF BULK AT MOST 1048576: true; the input reads as it did. -/
def bookFindsUptoRow : OpenClaim := { program := "ytbdabpllbfemfaa", sum := "0a0a71157aa44901193a57074decb4bfd48b63902f421611804b20e14bf0f2e8", func := "vendmeter/vendmeterlaw.BookFinds", spec := "bookFinds", unfollowed := true, recurses := true, apart := false, narrowed := true }
def BookFindsUptoSaid : Prop := bookFindsUptoRow.holds Try.pinned (OpenSpec.upto bookFindsSpec)

/-- 'vendmeterlaw.VendLoads', WHERE WHAT IT READS IS OF BULK AT MOST 1048576: true; the input reads as it did. -/
def vendLoadsUptoRow : OpenClaim := { program := "ytbdabpllbfemfaa", sum := "0a0a71157aa44901193a57074decb4bfd48b63902f421611804b20e14bf0f2e8", func := "vendmeter/vendmeterlaw.VendLoads", spec := "vendLoads", inPlace := ["internal/reflectlite.ValueOf", "(internal/reflectlite.Value).Len"], unfollowed := true, recurses := true, apart := false, narrowed := true }
def VendLoadsUptoSaid : Prop := vendLoadsUptoRow.holds Try.pinned (OpenSpec.upto vendLoadsSpec)

end Rows
end Go.Proofs.Ytbdabpllbfemfaa
