/-
  No cell of these rows narrows 'for every input' (looked for: loops, veiled, ifaces, maps, wideKeys, modest, calm, conditions, laid).
  DERIVED. THE GIVEN ROWS OF THIS SEAT. 4 by the template 'for every input the law returns true; each argument reads behind the call as it read before'; 0 by the template 'total and deterministic' (their statements: YtojnaalncgofhaaTotals.lean).
  GIVEN WITH THE SEED: the statements are not yours to turn. If you find one false, say at which input.
  Laid BY PROGRAM, IN A SANDBOX (cutbox-rows.mjs): the forced cells as the released guide's own fill.sh prints them over the translation 7f5c8725695ad2df… (all of the seat's roots in one cut). By AI agents, Wed Nov 11 2026. No macro, syntax, notation, axiom, sorry.
-/
import Derived.Test.YtojnaalncgofhaaChecked
import GoSem.Claim
import GoSem.ClaimJoined
import GoSem.ClaimMapViews
import Derived.JoinedTies
import Derived.KernelRfl
namespace Go.Proofs.Ytojnaalncgofhaa
/- THE CELL 'sum', in the pinned program and in every row, IS THE sha256 OF THE DUMP (.gsa) THAT YtojnaalncgofhaaProg.lean LOADS. Nothing in Lean hashes anything: it is a label: what it is worth is what the hold of that sum in a sandbox is worth. -/
noncomputable def Try.pinned : Pinned := { name := "ytojnaalncgofhaa", sum := "7f5c8725695ad2dfdd0931184d4a8c379091eac00c1cf806c11395ffa80594c6", checked := Try.checked }
namespace Rows
def none {H : Type} : Left H := { results := [], args := [] }

/-- 'vendmeterlaw.AccountSells': WHATEVER THE INPUT: true; the input reads as it did. -/
def accountSellsSpec : ChangeSpec := { name := "accountSells", fn := fun _ => fun
  | [d1, d2, d3, d4] => { results := [.lit (.bool true)], args := [d1, d2, d3, d4] }
  | _ => none }
def accountSellsRow : OpenClaim := { program := "ytojnaalncgofhaa", sum := "7f5c8725695ad2dfdd0931184d4a8c379091eac00c1cf806c11395ffa80594c6", func := "vendmeter/vendmeterlaw.AccountSells", spec := "accountSells", inPlace := ["internal/reflectlite.ValueOf", "(internal/reflectlite.Value).Len"], unfollowed := true, recurses := true, apart := false }
def AccountSellsSaid : Prop := accountSellsRow.holds Try.pinned (OpenSpec.ofChange accountSellsSpec)

/-- ITS FALSE NEIGHBOUR: 'it returns false'. Refute it at one input. -/
def accountSellsWrong : ChangeSpec := { name := "accountSells", fn := fun _ => fun
  | [d1, d2, d3, d4] => { results := [.lit (.bool false)], args := [d1, d2, d3, d4] }
  | _ => none }
def AccountSellsWrongFalsely : Prop := accountSellsRow.holds Try.pinned (OpenSpec.ofChange accountSellsWrong)

/-- 'vendmeterlaw.BookEncodes': WHATEVER THE INPUT: true; the input reads as it did. -/
def bookEncodesSpec : ChangeSpec := { name := "bookEncodes", fn := fun _ => fun
  | [d] => { results := [.lit (.bool true)], args := [d] }
  | _ => none }
def bookEncodesRow : OpenClaim := { program := "ytojnaalncgofhaa", sum := "7f5c8725695ad2dfdd0931184d4a8c379091eac00c1cf806c11395ffa80594c6", func := "vendmeter/vendmeterlaw.BookEncodes", spec := "bookEncodes", unfollowed := true, recurses := true, apart := false }
def BookEncodesSaid : Prop := bookEncodesRow.holds Try.pinned (OpenSpec.ofChange bookEncodesSpec)

/-- ITS FALSE NEIGHBOUR: 'it returns false'. Refute it at one input. -/
def bookEncodesWrong : ChangeSpec := { name := "bookEncodes", fn := fun _ => fun
  | [d] => { results := [.lit (.bool false)], args := [d] }
  | _ => none }
def BookEncodesWrongFalsely : Prop := bookEncodesRow.holds Try.pinned (OpenSpec.ofChange bookEncodesWrong)

/-- 'vendmeterlaw.BookDecodes': WHATEVER THE INPUT: true; the input reads as it did. -/
def bookDecodesSpec : ChangeSpec := { name := "bookDecodes", fn := fun _ => fun
  | [d] => { results := [.lit (.bool true)], args := [d] }
  | _ => none }
def bookDecodesRow : OpenClaim := { program := "ytojnaalncgofhaa", sum := "7f5c8725695ad2dfdd0931184d4a8c379091eac00c1cf806c11395ffa80594c6", func := "vendmeter/vendmeterlaw.BookDecodes", spec := "bookDecodes", unfollowed := true, recurses := true, apart := false }
def BookDecodesSaid : Prop := bookDecodesRow.holds Try.pinned (OpenSpec.ofChange bookDecodesSpec)

/-- ITS FALSE NEIGHBOUR: 'it returns false'. Refute it at one input. -/
def bookDecodesWrong : ChangeSpec := { name := "bookDecodes", fn := fun _ => fun
  | [d] => { results := [.lit (.bool false)], args := [d] }
  | _ => none }
def BookDecodesWrongFalsely : Prop := bookDecodesRow.holds Try.pinned (OpenSpec.ofChange bookDecodesWrong)

/-- 'vendmeterlaw.CentsDeals': WHATEVER THE INPUT: true; the input reads as it did. -/
def centsDealsSpec : ChangeSpec := { name := "centsDeals", fn := fun _ => fun
  | [d1, d2] => { results := [.lit (.bool true)], args := [d1, d2] }
  | _ => none }
def centsDealsRow : OpenClaim := { program := "ytojnaalncgofhaa", sum := "7f5c8725695ad2dfdd0931184d4a8c379091eac00c1cf806c11395ffa80594c6", func := "vendmeter/vendmeterlaw.CentsDeals", spec := "centsDeals", unfollowed := true, recurses := true, apart := false }
def CentsDealsSaid : Prop := centsDealsRow.holds Try.pinned (OpenSpec.ofChange centsDealsSpec)

/-- ITS FALSE NEIGHBOUR: 'it returns false'. Refute it at one input. -/
def centsDealsWrong : ChangeSpec := { name := "centsDeals", fn := fun _ => fun
  | [d1, d2] => { results := [.lit (.bool false)], args := [d1, d2] }
  | _ => none }
def CentsDealsWrongFalsely : Prop := centsDealsRow.holds Try.pinned (OpenSpec.ofChange centsDealsWrong)

/- THE SECOND FORM. 'bulk': how many values and letters a reading holds, each counted each time it is reached (what is shared counts as often as it is met; a slice's spare places count too). A statement '..UptoSaid' is the law's where the arguments, and the package variables that the reading takes, are together of bulk at most 1048576: NARROWER than '..Said'. Prove '..Said' where nothing that the law and all that it calls make is longer than what came in: it says more and counts as full. Else prove '..UptoSaid'. A law counts once. -/
mutual
def uptoBulk {H : Type} : DataW H → Nat
  | .lit (.string bytes) => bytes.length + 1
  | .lit _ => 1
  | .nil => 1
  | .ptr d => uptoBulk d + 1
  | .slice elems spare => uptoBulkAll elems + uptoBulkAll spare + 1
  | .agg parts => uptoBulkAll parts + 1
  | .iface _ d => uptoBulk d + 1
  | .map entries => uptoBulkEntries entries + 1
  | .held _ => 1
def uptoBulkAll {H : Type} : List (DataW H) → Nat
  | [] => 0
  | d :: r => uptoBulk d + uptoBulkAll r
def uptoBulkEntries {H : Type} : List (Lit × DataW H) → Nat
  | [] => 0
  | x :: r => uptoBulkEntry x + uptoBulkEntries r
def uptoBulkEntry {H : Type} : Lit × DataW H → Nat
  | (.string bytes, d) => bytes.length + uptoBulk d + 1
  | (_, d) => uptoBulk d + 1
 end
def uptoSmall : (H : Type) → List (DataW H) → Bool := fun _ ds => decide (uptoBulkAll ds ≤ 1048576)
def OpenSpec.upto (s : _root_.Go.ChangeSpec) : _root_.Go.OpenSpec := { _root_.Go.OpenSpec.ofChange s with cond := some uptoSmall }

/-- 'vendmeterlaw.AccountSells', WHERE WHAT IT READS IS OF BULK AT MOST 1048576: true; the input reads as it did. -/
def accountSellsUptoRow : OpenClaim := { program := "ytojnaalncgofhaa", sum := "7f5c8725695ad2dfdd0931184d4a8c379091eac00c1cf806c11395ffa80594c6", func := "vendmeter/vendmeterlaw.AccountSells", spec := "accountSells", inPlace := ["internal/reflectlite.ValueOf", "(internal/reflectlite.Value).Len"], unfollowed := true, recurses := true, apart := false, narrowed := true }
def AccountSellsUptoSaid : Prop := accountSellsUptoRow.holds Try.pinned (OpenSpec.upto accountSellsSpec)

/-- 'vendmeterlaw.BookEncodes', WHERE WHAT IT READS IS OF BULK AT MOST 1048576: true; the input reads as it did. -/
def bookEncodesUptoRow : OpenClaim := { program := "ytojnaalncgofhaa", sum := "7f5c8725695ad2dfdd0931184d4a8c379091eac00c1cf806c11395ffa80594c6", func := "vendmeter/vendmeterlaw.BookEncodes", spec := "bookEncodes", unfollowed := true, recurses := true, apart := false, narrowed := true }
def BookEncodesUptoSaid : Prop := bookEncodesUptoRow.holds Try.pinned (OpenSpec.upto bookEncodesSpec)

/-- 'vendmeterlaw.BookDecodes', WHERE WHAT IT READS IS OF BULK AT MOST 1048576: true; the input reads as it did. -/
def bookDecodesUptoRow : OpenClaim := { program := "ytojnaalncgofhaa", sum := "7f5c8725695ad2dfdd0931184d4a8c379091eac00c1cf806c11395ffa80594c6", func := "vendmeter/vendmeterlaw.BookDecodes", spec := "bookDecodes", unfollowed := true, recurses := true, apart := false, narrowed := true }
def BookDecodesUptoSaid : Prop := bookDecodesUptoRow.holds Try.pinned (OpenSpec.upto bookDecodesSpec)

/-- 'vendmeterlaw.CentsDeals', WHERE WHAT IT READS IS OF BULK AT MOST 1048576: true; the input reads as it did. -/
def centsDealsUptoRow : OpenClaim := { program := "ytojnaalncgofhaa", sum := "7f5c8725695ad2dfdd0931184d4a8c379091eac00c1cf806c11395ffa80594c6", func := "vendmeter/vendmeterlaw.CentsDeals", spec := "centsDeals", unfollowed := true, recurses := true, apart := false, narrowed := true }
def CentsDealsUptoSaid : Prop := centsDealsUptoRow.holds Try.pinned (OpenSpec.upto centsDealsSpec)

end Rows
end Go.Proofs.Ytojnaalncgofhaa
