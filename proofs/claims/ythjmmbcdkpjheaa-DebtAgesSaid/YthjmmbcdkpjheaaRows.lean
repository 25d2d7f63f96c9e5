/-
  No cell of these rows narrows 'for every input' (looked for: loops, veiled, ifaces, maps, wideKeys, modest, calm, conditions, laid).
  DERIVED. THE GIVEN ROWS OF THIS SEAT. 11 by the template 'for every input the law returns true; each argument reads behind the call as it read before'; 0 by the template 'total and deterministic' (their statements: YthjmmbcdkpjheaaTotals.lean).
  GIVEN WITH THE SEED: the statements are not yours to turn. If you find one false, say at which input.
  Laid BY PROGRAM, IN A SANDBOX (cutbox-rows.mjs): the forced cells as the released guide's own fill.sh prints them over the translation 2c159c2763771685… (all of the seat's roots in one cut). By AI agents, Wed Nov 11 2026. No macro, syntax, notation, axiom, sorry.
-/
import Derived.Test.YthjmmbcdkpjheaaChecked
import GoSem.Claim
import GoSem.ClaimJoined
import GoSem.ClaimMapViews
import Derived.JoinedTies
import Derived.KernelRfl
namespace Go.Proofs.Ythjmmbcdkpjheaa
/- THE CELL 'sum', in the pinned program and in every row, IS THE sha256 OF THE DUMP (.gsa) THAT YthjmmbcdkpjheaaProg.lean LOADS. Nothing in Lean hashes anything: it is a label: what it is worth is what the hold of that sum in a sandbox is worth. -/
noncomputable def Try.pinned : Pinned := { name := "ythjmmbcdkpjheaa", sum := "2c159c27637716856b77f1c2070ecee5bb1bb38cdc4d703432c9f833f9149a70", checked := Try.checked }
namespace Rows
def none {H : Type} : Left H := { results := [], args := [] }

/-- 'vendmeterlaw.CentsSums': WHATEVER THE INPUT: true; the input reads as it did. -/
def centsSumsSpec : ChangeSpec := { name := "centsSums", fn := fun _ => fun
  | [d] => { results := [.lit (.bool true)], args := [d] }
  | _ => none }
def centsSumsRow : OpenClaim := { program := "ythjmmbcdkpjheaa", sum := "2c159c27637716856b77f1c2070ecee5bb1bb38cdc4d703432c9f833f9149a70", func := "vendmeter/vendmeterlaw.CentsSums", spec := "centsSums", apart := false }
def CentsSumsSaid : Prop := centsSumsRow.holds Try.pinned (OpenSpec.ofChange centsSumsSpec)

/-- ITS FALSE NEIGHBOUR: 'it returns false'. Refute it at one input. -/
def centsSumsWrong : ChangeSpec := { name := "centsSums", fn := fun _ => fun
  | [d] => { results := [.lit (.bool false)], args := [d] }
  | _ => none }
def CentsSumsWrongFalsely : Prop := centsSumsRow.holds Try.pinned (OpenSpec.ofChange centsSumsWrong)

/-- 'vendmeterlaw.CentsDeals': WHATEVER THE INPUT: true; the input reads as it did. -/
def centsDealsSpec : ChangeSpec := { name := "centsDeals", fn := fun _ => fun
  | [d1, d2] => { results := [.lit (.bool true)], args := [d1, d2] }
  | _ => none }
def centsDealsRow : OpenClaim := { program := "ythjmmbcdkpjheaa", sum := "2c159c27637716856b77f1c2070ecee5bb1bb38cdc4d703432c9f833f9149a70", func := "vendmeter/vendmeterlaw.CentsDeals", spec := "centsDeals", unfollowed := true, recurses := true, apart := false }
def CentsDealsSaid : Prop := centsDealsRow.holds Try.pinned (OpenSpec.ofChange centsDealsSpec)

/-- ITS FALSE NEIGHBOUR: 'it returns false'. Refute it at one input. -/
def centsDealsWrong : ChangeSpec := { name := "centsDeals", fn := fun _ => fun
  | [d1, d2] => { results := [.lit (.bool false)], args := [d1, d2] }
  | _ => none }
def CentsDealsWrongFalsely : Prop := centsDealsRow.holds Try.pinned (OpenSpec.ofChange centsDealsWrong)

/-- 'vendmeterlaw.CentsReads': WHATEVER THE INPUT: true; the input reads as it did. -/
def centsReadsSpec : ChangeSpec := { name := "centsReads", fn := fun _ => fun
  | [d] => { results := [.lit (.bool true)], args := [d] }
  | _ => none }
def centsReadsRow : OpenClaim := { program := "ythjmmbcdkpjheaa", sum := "2c159c27637716856b77f1c2070ecee5bb1bb38cdc4d703432c9f833f9149a70", func := "vendmeter/vendmeterlaw.CentsReads", spec := "centsReads", inPlace := ["internal/bytealg.IndexByteString", "internal/bytealg.IndexString"], named := ["internal/bytealg.MaxLen"], apart := false }
def CentsReadsSaid : Prop := centsReadsRow.holds Try.pinned (OpenSpec.ofChange centsReadsSpec)

/-- ITS FALSE NEIGHBOUR: 'it returns false'. Refute it at one input. -/
def centsReadsWrong : ChangeSpec := { name := "centsReads", fn := fun _ => fun
  | [d] => { results := [.lit (.bool false)], args := [d] }
  | _ => none }
def CentsReadsWrongFalsely : Prop := centsReadsRow.holds Try.pinned (OpenSpec.ofChange centsReadsWrong)

/-- 'vendmeterlaw.DebtTotals': WHATEVER THE INPUT: true; the input reads as it did. -/
def debtTotalsSpec : ChangeSpec := { name := "debtTotals", fn := fun _ => fun
  | [d] => { results := [.lit (.bool true)], args := [d] }
  | _ => none }
def debtTotalsRow : OpenClaim := { program := "ythjmmbcdkpjheaa", sum := "2c159c27637716856b77f1c2070ecee5bb1bb38cdc4d703432c9f833f9149a70", func := "vendmeter/vendmeterlaw.DebtTotals", spec := "debtTotals", apart := false }
def DebtTotalsSaid : Prop := debtTotalsRow.holds Try.pinned (OpenSpec.ofChange debtTotalsSpec)

/-- ITS FALSE NEIGHBOUR: 'it returns false'. Refute it at one input. -/
def debtTotalsWrong : ChangeSpec := { name := "debtTotals", fn := fun _ => fun
  | [d] => { results := [.lit (.bool false)], args := [d] }
  | _ => none }
def DebtTotalsWrongFalsely : Prop := debtTotalsRow.holds Try.pinned (OpenSpec.ofChange debtTotalsWrong)

/-- 'vendmeterlaw.DebtAges': WHATEVER THE INPUT: true; the input reads as it did. -/
def debtAgesSpec : ChangeSpec := { name := "debtAges", fn := fun _ => fun
  | [d1, d2] => { results := [.lit (.bool true)], args := [d1, d2] }
  | _ => none }
def debtAgesRow : OpenClaim := { program := "ythjmmbcdkpjheaa", sum := "2c159c27637716856b77f1c2070ecee5bb1bb38cdc4d703432c9f833f9149a70", func := "vendmeter/vendmeterlaw.DebtAges", spec := "debtAges", apart := false }
def DebtAgesSaid : Prop := debtAgesRow.holds Try.pinned (OpenSpec.ofChange debtAgesSpec)

/-- ITS FALSE NEIGHBOUR: 'it returns false'. Refute it at one input. -/
def debtAgesWrong : ChangeSpec := { name := "debtAges", fn := fun _ => fun
  | [d1, d2] => { results := [.lit (.bool false)], args := [d1, d2] }
  | _ => none }
def DebtAgesWrongFalsely : Prop := debtAgesRow.holds Try.pinned (OpenSpec.ofChange debtAgesWrong)

/-- 'vendmeterlaw.DebtRecovers': WHATEVER THE INPUT: true; the input reads as it did. -/
def debtRecoversSpec : ChangeSpec := { name := "debtRecovers", fn := fun _ => fun
  | [d1, d2, d3] => { results := [.lit (.bool true)], args := [d1, d2, d3] }
  | _ => none }
def debtRecoversRow : OpenClaim := { program := "ythjmmbcdkpjheaa", sum := "2c159c27637716856b77f1c2070ecee5bb1bb38cdc4d703432c9f833f9149a70", func := "vendmeter/vendmeterlaw.DebtRecovers", spec := "debtRecovers", apart := false }
def DebtRecoversSaid : Prop := debtRecoversRow.holds Try.pinned (OpenSpec.ofChange debtRecoversSpec)

/-- ITS FALSE NEIGHBOUR: 'it returns false'. Refute it at one input. -/
def debtRecoversWrong : ChangeSpec := { name := "debtRecovers", fn := fun _ => fun
  | [d1, d2, d3] => { results := [.lit (.bool false)], args := [d1, d2, d3] }
  | _ => none }
def DebtRecoversWrongFalsely : Prop := debtRecoversRow.holds Try.pinned (OpenSpec.ofChange debtRecoversWrong)

/-- 'vendmeterlaw.DebtTimes': WHATEVER THE INPUT: true; the input reads as it did. -/
def debtTimesSpec : ChangeSpec := { name := "debtTimes", fn := fun _ => fun
  | [d1, d2, d3] => { results := [.lit (.bool true)], args := [d1, d2, d3] }
  | _ => none }
def debtTimesRow : OpenClaim := { program := "ythjmmbcdkpjheaa", sum := "2c159c27637716856b77f1c2070ecee5bb1bb38cdc4d703432c9f833f9149a70", func := "vendmeter/vendmeterlaw.DebtTimes", spec := "debtTimes", apart := false }
def DebtTimesSaid : Prop := debtTimesRow.holds Try.pinned (OpenSpec.ofChange debtTimesSpec)

/-- ITS FALSE NEIGHBOUR: 'it returns false'. Refute it at one input. -/
def debtTimesWrong : ChangeSpec := { name := "debtTimes", fn := fun _ => fun
  | [d1, d2, d3] => { results := [.lit (.bool false)], args := [d1, d2, d3] }
  | _ => none }
def DebtTimesWrongFalsely : Prop := debtTimesRow.holds Try.pinned (OpenSpec.ofChange debtTimesWrong)

/-- 'vendmeterlaw.TariffChecks': WHATEVER THE INPUT: true; the input reads as it did. -/
def tariffChecksSpec : ChangeSpec := { name := "tariffChecks", fn := fun _ => fun
  | [d] => { results := [.lit (.bool true)], args := [d] }
  | _ => none }
def tariffChecksRow : OpenClaim := { program := "ythjmmbcdkpjheaa", sum := "2c159c27637716856b77f1c2070ecee5bb1bb38cdc4d703432c9f833f9149a70", func := "vendmeter/vendmeterlaw.TariffChecks", spec := "tariffChecks", inPlace := ["internal/reflectlite.ValueOf", "(internal/reflectlite.Value).Len"], unfollowed := true, recurses := true, apart := false }
def TariffChecksSaid : Prop := tariffChecksRow.holds Try.pinned (OpenSpec.ofChange tariffChecksSpec)

/-- ITS FALSE NEIGHBOUR: 'it returns false'. Refute it at one input. -/
def tariffChecksWrong : ChangeSpec := { name := "tariffChecks", fn := fun _ => fun
  | [d] => { results := [.lit (.bool false)], args := [d] }
  | _ => none }
def TariffChecksWrongFalsely : Prop := tariffChecksRow.holds Try.pinned (OpenSpec.ofChange tariffChecksWrong)

/-- 'vendmeterlaw.TariffBills': WHATEVER THE INPUT: true; the input reads as it did. -/
def tariffBillsSpec : ChangeSpec := { name := "tariffBills", fn := fun _ => fun
  | [d1, d2, d3] => { results := [.lit (.bool true)], args := [d1, d2, d3] }
  | _ => none }
def tariffBillsRow : OpenClaim := { program := "ythjmmbcdkpjheaa", sum := "2c159c27637716856b77f1c2070ecee5bb1bb38cdc4d703432c9f833f9149a70", func := "vendmeter/vendmeterlaw.TariffBills", spec := "tariffBills", inPlace := ["internal/reflectlite.ValueOf", "(internal/reflectlite.Value).Len"], unfollowed := true, recurses := true, apart := false }
def TariffBillsSaid : Prop := tariffBillsRow.holds Try.pinned (OpenSpec.ofChange tariffBillsSpec)

/-- ITS FALSE NEIGHBOUR: 'it returns false'. Refute it at one input. -/
def tariffBillsWrong : ChangeSpec := { name := "tariffBills", fn := fun _ => fun
  | [d1, d2, d3] => { results := [.lit (.bool false)], args := [d1, d2, d3] }
  | _ => none }
def TariffBillsWrongFalsely : Prop := tariffBillsRow.holds Try.pinned (OpenSpec.ofChange tariffBillsWrong)

/-- 'vendmeterlaw.TariffMosts': WHATEVER THE INPUT: true; the input reads as it did. -/
def tariffMostsSpec : ChangeSpec := { name := "tariffMosts", fn := fun _ => fun
  | [d1, d2, d3] => { results := [.lit (.bool true)], args := [d1, d2, d3] }
  | _ => none }
def tariffMostsRow : OpenClaim := { program := "ythjmmbcdkpjheaa", sum := "2c159c27637716856b77f1c2070ecee5bb1bb38cdc4d703432c9f833f9149a70", func := "vendmeter/vendmeterlaw.TariffMosts", spec := "tariffMosts", inPlace := ["internal/reflectlite.ValueOf", "(internal/reflectlite.Value).Len"], unfollowed := true, recurses := true, apart := false }
def TariffMostsSaid : Prop := tariffMostsRow.holds Try.pinned (OpenSpec.ofChange tariffMostsSpec)

/-- ITS FALSE NEIGHBOUR: 'it returns false'. Refute it at one input. -/
def tariffMostsWrong : ChangeSpec := { name := "tariffMosts", fn := fun _ => fun
  | [d1, d2, d3] => { results := [.lit (.bool false)], args := [d1, d2, d3] }
  | _ => none }
def TariffMostsWrongFalsely : Prop := tariffMostsRow.holds Try.pinned (OpenSpec.ofChange tariffMostsWrong)

/-- 'vendmeterlaw.TariffPrices': WHATEVER THE INPUT: true; the input reads as it did. -/
def tariffPricesSpec : ChangeSpec := { name := "tariffPrices", fn := fun _ => fun
  | [d1, d2, d3] => { results := [.lit (.bool true)], args := [d1, d2, d3] }
  | _ => none }
def tariffPricesRow : OpenClaim := { program := "ythjmmbcdkpjheaa", sum := "2c159c27637716856b77f1c2070ecee5bb1bb38cdc4d703432c9f833f9149a70", func := "vendmeter/vendmeterlaw.TariffPrices", spec := "tariffPrices", inPlace := ["internal/reflectlite.ValueOf", "(internal/reflectlite.Value).Len"], unfollowed := true, recurses := true, apart := false }
def TariffPricesSaid : Prop := tariffPricesRow.holds Try.pinned (OpenSpec.ofChange tariffPricesSpec)

/-- ITS FALSE NEIGHBOUR: 'it returns false'. Refute it at one input. -/
def tariffPricesWrong : ChangeSpec := { name := "tariffPrices", fn := fun _ => fun
  | [d1, d2, d3] => { results := [.lit (.bool false)], args := [d1, d2, d3] }
  | _ => none }
def TariffPricesWrongFalsely : Prop := tariffPricesRow.holds Try.pinned (OpenSpec.ofChange tariffPricesWrong)

/- THE SECOND FORM. 'bulk': how many values and letters a reading holds, each counted each time it is reached (what is shared counts as often as it is met; a slice's spare places count too). A statement '..UptoSaid' is the law's where the arguments, and the package variables that the reading takes, are together of bulk at most 1048576: NARROWER than '..Said'. Prove '..Said' where nothing that the law and all that it calls make is longer than what came in: it says more and counts as full. Else prove '..UptoSaid'. A law counts once. -/
mutual
def uptoBulk {H : Type} : DataW H → Nat
  | .lit (.string bytes) => bytes.length + 1
  | .lit _ => 1
  | .nil => 1
  | .ptr d => uptoBulk d + 1
  | .slice elems spare => uptoBulkAll elems + uptoBulkAll spare + 1
  | .agg parts => uptoBulkAll parts + 1
  | .iface _ d => uptoBulk d + 1
  | .map entries => uptoBulkEntries entries + 1
  | .held _ => 1
def uptoBulkAll {H : Type} : List (DataW H) → Nat
  | [] => 0
  | d :: r => uptoBulk d + uptoBulkAll r
def uptoBulkEntries {H : Type} : List (Lit × DataW H) → Nat
  | [] => 0
  | x :: r => uptoBulkEntry x + uptoBulkEntries r
def uptoBulkEntry {H : Type} : Lit × DataW H → Nat
  | (.string bytes, d) => bytes.length + uptoBulk d + 1
  | (_, d) => uptoBulk d + 1
 end
def uptoSmall : (H : Type) → List (DataW H) → Bool := fun _ ds => decide (uptoBulkAll ds ≤ 1048576)
def OpenSpec.upto (s : _root_.Go.ChangeSpec) : _root_.Go.OpenSpec := { _root_.Go.OpenSpec.ofChange s with cond := some uptoSmall }

/-- 'vendmeterlaw.CentsSums', WHERE WHAT IT READS IS OF BULK AT MOST 1048576: true; the input reads as it did. -/
def centsSumsUptoRow : OpenClaim := { program := "ythjmmbcdkpjheaa", sum := "2c159c27637716856b77f1c2070ecee5bb1bb38cdc4d703432c9f833f9149a70", func := "vendmeter/vendmeterlaw.CentsSums", spec := "centsSums", apart := false, narrowed := true }
def CentsSumsUptoSaid : Prop := centsSumsUptoRow.holds Try.pinned (OpenSpec.upto centsSumsSpec)

/-- 'vendmeterlaw.CentsDeals', WHERE WHAT IT READS IS OF BULK AT MOST 1048576: true; the input reads as it did. -/
def centsDealsUptoRow : OpenClaim := { program := "ythjmmbcdkpjheaa", sum := "2c159c27637716856b77f1c2070ecee5bb1bb38cdc4d703432c9f833f9149a70", func := "vendmeter/vendmeterlaw.CentsDeals", spec := "centsDeals", unfollowed := true, recurses := true, apart := false, narrowed := true }
def CentsDealsUptoSaid : Prop := centsDealsUptoRow.holds Try.pinned (OpenSpec.upto centsDealsSpec)

/-- 'vendmeterlaw.CentsReads', WHERE WHAT IT READS IS OF BULK AT MOST 1048576: true; the input reads as it did. -/
def centsReadsUptoRow : OpenClaim := { program := "ythjmmbcdkpjheaa", sum := "2c159c27637716856b77f1c2070ecee5bb1bb38cdc4d703432c9f833f9149a70", func := "vendmeter/vendmeterlaw.CentsReads", spec := "centsReads", inPlace := ["internal/bytealg.IndexByteString", "internal/bytealg.IndexString"], named := ["internal/bytealg.MaxLen"], apart := false, narrowed := true }
def CentsReadsUptoSaid : Prop := centsReadsUptoRow.holds Try.pinned (OpenSpec.upto centsReadsSpec)

/-- 'vendmeterlaw.DebtTotals', WHERE WHAT IT READS IS OF BULK AT MOST 1048576: true; the input reads as it did. -/
def debtTotalsUptoRow : OpenClaim := { program := "ythjmmbcdkpjheaa", sum := "2c159c27637716856b77f1c2070ecee5bb1bb38cdc4d703432c9f833f9149a70", func := "vendmeter/vendmeterlaw.DebtTotals", spec := "debtTotals", apart := false, narrowed := true }
def DebtTotalsUptoSaid : Prop := debtTotalsUptoRow.holds Try.pinned (OpenSpec.upto debtTotalsSpec)

/-- 'vendmeterlaw.DebtAges', WHERE WHAT IT READS IS OF BULK AT MOST 1048576: true; the input reads as it did. -/
def debtAgesUptoRow : OpenClaim := { program := "ythjmmbcdkpjheaa", sum := "2c159c27637716856b77f1c2070ecee5bb1bb38cdc4d703432c9f833f9149a70", func := "vendmeter/vendmeterlaw.DebtAges", spec := "debtAges", apart := false, narrowed := true }
def DebtAgesUptoSaid : Prop := debtAgesUptoRow.holds Try.pinned (OpenSpec.upto debtAgesSpec)

/-- 'vendmeterlaw.DebtRecovers', WHERE WHAT IT READS IS OF BULK AT MOST 1048576: true; the input reads as it did. -/
def debtRecoversUptoRow : OpenClaim := { program := "ythjmmbcdkpjheaa", sum := "2c159c27637716856b77f1c2070ecee5bb1bb38cdc4d703432c9f833f9149a70", func := "vendmeter/vendmeterlaw.DebtRecovers", spec := "debtRecovers", apart := false, narrowed := true }
def DebtRecoversUptoSaid : Prop := debtRecoversUptoRow.holds Try.pinned (OpenSpec.upto debtRecoversSpec)

/-- 'vendmeterlaw.DebtTimes', WHERE WHAT IT READS IS OF BULK AT MOST 1048576: true; the input reads as it did. -/
def debtTimesUptoRow : OpenClaim := { program := "ythjmmbcdkpjheaa", sum := "2c159c27637716856b77f1c2070ecee5bb1bb38cdc4d703432c9f833f9149a70", func := "vendmeter/vendmeterlaw.DebtTimes", spec := "debtTimes", apart := false, narrowed := true }
def DebtTimesUptoSaid : Prop := debtTimesUptoRow.holds Try.pinned (OpenSpec.upto debtTimesSpec)

/-- 'vendmeterlaw.TariffChecks', WHERE WHAT IT READS IS OF BULK AT MOST 1048576: true; the input reads as it did. -/
def tariffChecksUptoRow : OpenClaim := { program := "ythjmmbcdkpjheaa", sum := "2c159c27637716856b77f1c2070ecee5bb1bb38cdc4d703432c9f833f9149a70", func := "vendmeter/vendmeterlaw.TariffChecks", spec := "tariffChecks", inPlace := ["internal/reflectlite.ValueOf", "(internal/reflectlite.Value).Len"], unfollowed := true, recurses := true, apart := false, narrowed := true }
def TariffChecksUptoSaid : Prop := tariffChecksUptoRow.holds Try.pinned (OpenSpec.upto tariffChecksSpec)

/-- 'vendmeterlaw.TariffBills', WHERE WHAT IT READS IS OF BULK AT MOST 1048576: true; the input reads as it did. -/
def tariffBillsUptoRow : OpenClaim := { program := "ythjmmbcdkpjheaa", sum := "2c159c27637716856b77f1c2070ecee5bb1bb38cdc4d703432c9f833f9149a70", func := "vendmeter/vendmeterlaw.TariffBills", spec := "tariffBills", inPlace := ["internal/reflectlite.ValueOf", "(internal/reflectlite.Value).Len"], unfollowed := true, recurses := true, apart := false, narrowed := true }
def TariffBillsUptoSaid : Prop := tariffBillsUptoRow.holds Try.pinned (OpenSpec.upto tariffBillsSpec)

/-- 'vendmeterlaw.TariffMosts', WHERE WHAT IT READS IS OF BULK AT MOST 1048576: true; the input reads as it did. -/
def tariffMostsUptoRow : OpenClaim := { program := "ythjmmbcdkpjheaa", sum := "2c159c27637716856b77f1c2070ecee5bb1bb38cdc4d703432c9f833f9149a70", func := "vendmeter/vendmeterlaw.TariffMosts", spec := "tariffMosts", inPlace := ["internal/reflectlite.ValueOf", "(internal/reflectlite.Value).Len"], unfollowed := true, recurses := true, apart := false, narrowed := true }
def TariffMostsUptoSaid : Prop := tariffMostsUptoRow.holds Try.pinned (OpenSpec.upto tariffMostsSpec)

/-- 'vendmeterlaw.TariffPrices', WHERE WHAT IT READS IS OF BULK AT MOST 1048576: true; the input reads as it did. -/
def tariffPricesUptoRow : OpenClaim := { program := "ythjmmbcdkpjheaa", sum := "2c159c27637716856b77f1c2070ecee5bb1bb38cdc4d703432c9f833f9149a70", func := "vendmeter/vendmeterlaw.TariffPrices", spec := "tariffPrices", inPlace := ["internal/reflectlite.ValueOf", "(internal/reflectlite.Value).Len"], unfollowed := true, recurses := true, apart := false, narrowed := true }
def TariffPricesUptoSaid : Prop := tariffPricesUptoRow.holds Try.pinned (OpenSpec.upto tariffPricesSpec)

end Rows
end Go.Proofs.Ythjmmbcdkpjheaa
