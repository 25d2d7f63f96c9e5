/-
  No cell of these rows narrows 'for every input' (looked for: loops, veiled, ifaces, maps, wideKeys, modest, calm, conditions, laid).
  DERIVED. THE GIVEN ROWS OF THIS SEAT. 12 by the template 'for every input the law returns true; each argument reads behind the call as it read before'; 0 by the template 'total and deterministic' (their statements: YtgelnjcohnfmhaaTotals.lean).
  GIVEN WITH THE SEED: the statements are not yours to turn. If you find one false, say at which input.
  Laid BY PROGRAM, IN A SANDBOX (cutbox-rows.mjs): the forced cells as the released guide's own fill.sh prints them over the translation 7e5755730631a7ee… (all of the seat's roots in one cut). By AI agents, Wed Nov 11 2026. No macro, syntax, notation, axiom, sorry.
-/
import Derived.Test.YtgelnjcohnfmhaaChecked
import GoSem.Claim
import GoSem.ClaimJoined
import GoSem.ClaimMapViews
import Derived.JoinedTies
import Derived.KernelRfl
namespace Go.Proofs.Ytgelnjcohnfmhaa
/- THE CELL 'sum', in the pinned program and in every row, IS THE sha256 OF THE DUMP (.gsa) THAT YtgelnjcohnfmhaaProg.lean LOADS. Nothing in Lean hashes anything: it is a label: what it is worth is what the hold of that sum in a sandbox is worth. -/
noncomputable def Try.pinned : Pinned := { name := "ytgelnjcohnfmhaa", sum := "7e5755730631a7eefa7ec294bebd8f65a593758522f88dc6623901794fe71827", checked := Try.checked }
namespace Rows
def none {H : Type} : Left H := { results := [], args := [] }

/-- 'vendmeterlaw.OracleMays': WHATEVER THE INPUT: true; the input reads as it did. -/
def oracleMaysSpec : ChangeSpec := { name := "oracleMays", fn := fun _ => fun
  | [d] => { results := [.lit (.bool true)], args := [d] }
  | _ => none }
def oracleMaysRow : OpenClaim := { program := "ytgelnjcohnfmhaa", sum := "7e5755730631a7eefa7ec294bebd8f65a593758522f88dc6623901794fe71827", func := "vendmeter/vendmeterlaw.OracleMays", spec := "oracleMays", plainKeys := false, apart := false }
def OracleMaysSaid : Prop := oracleMaysRow.holds Try.pinned (OpenSpec.ofChange oracleMaysSpec)

/-- ITS FALSE NEIGHBOUR: 'it returns false'. Refute it at one input. -/
def oracleMaysWrong : ChangeSpec := { name := "oracleMays", fn := fun _ => fun
  | [d] => { results := [.lit (.bool false)], args := [d] }
  | _ => none }
def OracleMaysWrongFalsely : Prop := oracleMaysRow.holds Try.pinned (OpenSpec.ofChange oracleMaysWrong)

/-- 'vendmeterlaw.OracleVerifies': WHATEVER THE INPUT: true; the input reads as it did. -/
def oracleVerifiesSpec : ChangeSpec := { name := "oracleVerifies", fn := fun _ => fun
  | [d1, d2, d3, d4, d5] => { results := [.lit (.bool true)], args := [d1, d2, d3, d4, d5] }
  | _ => none }
def oracleVerifiesRow : OpenClaim := { program := "ytgelnjcohnfmhaa", sum := "7e5755730631a7eefa7ec294bebd8f65a593758522f88dc6623901794fe71827", func := "vendmeter/vendmeterlaw.OracleVerifies", spec := "oracleVerifies", plainKeys := false, apart := false }
def OracleVerifiesSaid : Prop := oracleVerifiesRow.holds Try.pinned (OpenSpec.ofChange oracleVerifiesSpec)

/-- ITS FALSE NEIGHBOUR: 'it returns false'. Refute it at one input. -/
def oracleVerifiesWrong : ChangeSpec := { name := "oracleVerifies", fn := fun _ => fun
  | [d1, d2, d3, d4, d5] => { results := [.lit (.bool false)], args := [d1, d2, d3, d4, d5] }
  | _ => none }
def OracleVerifiesWrongFalsely : Prop := oracleVerifiesRow.holds Try.pinned (OpenSpec.ofChange oracleVerifiesWrong)

/-- 'vendmeterlaw.OracleIssues': WHATEVER THE INPUT: true; the input reads as it did. -/
def oracleIssuesSpec : ChangeSpec := { name := "oracleIssues", fn := fun _ => fun
  | [d1, d2, d3, d4, d5] => { results := [.lit (.bool true)], args := [d1, d2, d3, d4, d5] }
  | _ => none }
def oracleIssuesRow : OpenClaim := { program := "ytgelnjcohnfmhaa", sum := "7e5755730631a7eefa7ec294bebd8f65a593758522f88dc6623901794fe71827", func := "vendmeter/vendmeterlaw.OracleIssues", spec := "oracleIssues", plainKeys := false, apart := false }
def OracleIssuesSaid : Prop := oracleIssuesRow.holds Try.pinned (OpenSpec.ofChange oracleIssuesSpec)

/-- ITS FALSE NEIGHBOUR: 'it returns false'. Refute it at one input. -/
def oracleIssuesWrong : ChangeSpec := { name := "oracleIssues", fn := fun _ => fun
  | [d1, d2, d3, d4, d5] => { results := [.lit (.bool false)], args := [d1, d2, d3, d4, d5] }
  | _ => none }
def OracleIssuesWrongFalsely : Prop := oracleIssuesRow.holds Try.pinned (OpenSpec.ofChange oracleIssuesWrong)

/-- 'vendmeterlaw.MeterKeys': WHATEVER THE INPUT: true; the input reads as it did. -/
def meterKeysSpec : ChangeSpec := { name := "meterKeys", fn := fun _ => fun
  | [d1, d2, d3] => { results := [.lit (.bool true)], args := [d1, d2, d3] }
  | _ => none }
def meterKeysRow : OpenClaim := { program := "ytgelnjcohnfmhaa", sum := "7e5755730631a7eefa7ec294bebd8f65a593758522f88dc6623901794fe71827", func := "vendmeter/vendmeterlaw.MeterKeys", spec := "meterKeys", unfollowed := true, recurses := true, plainKeys := false, apart := false }
def MeterKeysSaid : Prop := meterKeysRow.holds Try.pinned (OpenSpec.ofChange meterKeysSpec)

/-- ITS FALSE NEIGHBOUR: 'it returns false'. Refute it at one input. -/
def meterKeysWrong : ChangeSpec := { name := "meterKeys", fn := fun _ => fun
  | [d1, d2, d3] => { results := [.lit (.bool false)], args := [d1, d2, d3] }
  | _ => none }
def MeterKeysWrongFalsely : Prop := meterKeysRow.holds Try.pinned (OpenSpec.ofChange meterKeysWrong)

/-- 'vendmeterlaw.MeterReads': WHATEVER THE INPUT: true; the input reads as it did. -/
def meterReadsSpec : ChangeSpec := { name := "meterReads", fn := fun _ => fun
  | [d] => { results := [.lit (.bool true)], args := [d] }
  | _ => none }
def meterReadsRow : OpenClaim := { program := "ytgelnjcohnfmhaa", sum := "7e5755730631a7eefa7ec294bebd8f65a593758522f88dc6623901794fe71827", func := "vendmeter/vendmeterlaw.MeterReads", spec := "meterReads", plainKeys := false, apart := false }
def MeterReadsSaid : Prop := meterReadsRow.holds Try.pinned (OpenSpec.ofChange meterReadsSpec)

/-- ITS FALSE NEIGHBOUR: 'it returns false'. Refute it at one input. -/
def meterReadsWrong : ChangeSpec := { name := "meterReads", fn := fun _ => fun
  | [d] => { results := [.lit (.bool false)], args := [d] }
  | _ => none }
def MeterReadsWrongFalsely : Prop := meterReadsRow.holds Try.pinned (OpenSpec.ofChange meterReadsWrong)

/-- 'vendmeterlaw.PocketMakes': WHATEVER THE INPUT: true; the input reads as it did. -/
def pocketMakesSpec : ChangeSpec := { name := "pocketMakes", fn := fun _ => fun
  | [d] => { results := [.lit (.bool true)], args := [d] }
  | _ => none }
def pocketMakesRow : OpenClaim := { program := "ytgelnjcohnfmhaa", sum := "7e5755730631a7eefa7ec294bebd8f65a593758522f88dc6623901794fe71827", func := "vendmeter/vendmeterlaw.PocketMakes", spec := "pocketMakes", plainKeys := false, apart := false }
def PocketMakesSaid : Prop := pocketMakesRow.holds Try.pinned (OpenSpec.ofChange pocketMakesSpec)

/-- ITS FALSE NEIGHBOUR: 'it returns false'. Refute it at one input. -/
def pocketMakesWrong : ChangeSpec := { name := "pocketMakes", fn := fun _ => fun
  | [d] => { results := [.lit (.bool false)], args := [d] }
  | _ => none }
def PocketMakesWrongFalsely : Prop := pocketMakesRow.holds Try.pinned (OpenSpec.ofChange pocketMakesWrong)

/-- 'vendmeterlaw.PocketBoots': WHATEVER THE INPUT: true; the input reads as it did. -/
def pocketBootsSpec : ChangeSpec := { name := "pocketBoots", fn := fun _ => fun
  | [d] => { results := [.lit (.bool true)], args := [d] }
  | _ => none }
def pocketBootsRow : OpenClaim := { program := "ytgelnjcohnfmhaa", sum := "7e5755730631a7eefa7ec294bebd8f65a593758522f88dc6623901794fe71827", func := "vendmeter/vendmeterlaw.PocketBoots", spec := "pocketBoots", plainKeys := false, apart := false }
def PocketBootsSaid : Prop := pocketBootsRow.holds Try.pinned (OpenSpec.ofChange pocketBootsSpec)

/-- ITS FALSE NEIGHBOUR: 'it returns false'. Refute it at one input. -/
def pocketBootsWrong : ChangeSpec := { name := "pocketBoots", fn := fun _ => fun
  | [d] => { results := [.lit (.bool false)], args := [d] }
  | _ => none }
def PocketBootsWrongFalsely : Prop := pocketBootsRow.holds Try.pinned (OpenSpec.ofChange pocketBootsWrong)

/-- 'vendmeterlaw.PocketTicks': WHATEVER THE INPUT: true; the input reads as it did. -/
def pocketTicksSpec : ChangeSpec := { name := "pocketTicks", fn := fun _ => fun
  | [d1, d2] => { results := [.lit (.bool true)], args := [d1, d2] }
  | _ => none }
def pocketTicksRow : OpenClaim := { program := "ytgelnjcohnfmhaa", sum := "7e5755730631a7eefa7ec294bebd8f65a593758522f88dc6623901794fe71827", func := "vendmeter/vendmeterlaw.PocketTicks", spec := "pocketTicks", plainKeys := false, apart := false }
def PocketTicksSaid : Prop := pocketTicksRow.holds Try.pinned (OpenSpec.ofChange pocketTicksSpec)

/-- ITS FALSE NEIGHBOUR: 'it returns false'. Refute it at one input. -/
def pocketTicksWrong : ChangeSpec := { name := "pocketTicks", fn := fun _ => fun
  | [d1, d2] => { results := [.lit (.bool false)], args := [d1, d2] }
  | _ => none }
def PocketTicksWrongFalsely : Prop := pocketTicksRow.holds Try.pinned (OpenSpec.ofChange pocketTicksWrong)

/-- 'vendmeterlaw.CellApplies': WHATEVER THE INPUT: true; the input reads as it did. -/
def cellAppliesSpec : ChangeSpec := { name := "cellApplies", fn := fun _ => fun
  | [d1, d2, d3] => { results := [.lit (.bool true)], args := [d1, d2, d3] }
  | _ => none }
def cellAppliesRow : OpenClaim := { program := "ytgelnjcohnfmhaa", sum := "7e5755730631a7eefa7ec294bebd8f65a593758522f88dc6623901794fe71827", func := "vendmeter/vendmeterlaw.CellApplies", spec := "cellApplies", unfollowed := true, recurses := true, plainKeys := false, apart := false }
def CellAppliesSaid : Prop := cellAppliesRow.holds Try.pinned (OpenSpec.ofChange cellAppliesSpec)

/-- ITS FALSE NEIGHBOUR: 'it returns false'. Refute it at one input. -/
def cellAppliesWrong : ChangeSpec := { name := "cellApplies", fn := fun _ => fun
  | [d1, d2, d3] => { results := [.lit (.bool false)], args := [d1, d2, d3] }
  | _ => none }
def CellAppliesWrongFalsely : Prop := cellAppliesRow.holds Try.pinned (OpenSpec.ofChange cellAppliesWrong)

/-- 'vendmeterlaw.DiskReplays': WHATEVER THE INPUT: true; the input reads as it did. -/
def diskReplaysSpec : ChangeSpec := { name := "diskReplays", fn := fun _ => fun
  | [d] => { results := [.lit (.bool true)], args := [d] }
  | _ => none }
def diskReplaysRow : OpenClaim := { program := "ytgelnjcohnfmhaa", sum := "7e5755730631a7eefa7ec294bebd8f65a593758522f88dc6623901794fe71827", func := "vendmeter/vendmeterlaw.DiskReplays", spec := "diskReplays", unfollowed := true, recurses := true, plainKeys := false, apart := false }
def DiskReplaysSaid : Prop := diskReplaysRow.holds Try.pinned (OpenSpec.ofChange diskReplaysSpec)

/-- ITS FALSE NEIGHBOUR: 'it returns false'. Refute it at one input. -/
def diskReplaysWrong : ChangeSpec := { name := "diskReplays", fn := fun _ => fun
  | [d] => { results := [.lit (.bool false)], args := [d] }
  | _ => none }
def DiskReplaysWrongFalsely : Prop := diskReplaysRow.holds Try.pinned (OpenSpec.ofChange diskReplaysWrong)

/-- 'vendmeterlaw.DiskAppends': WHATEVER THE INPUT: true; the input reads as it did. -/
def diskAppendsSpec : ChangeSpec := { name := "diskAppends", fn := fun _ => fun
  | [d1, d2] => { results := [.lit (.bool true)], args := [d1, d2] }
  | _ => none }
def diskAppendsRow : OpenClaim := { program := "ytgelnjcohnfmhaa", sum := "7e5755730631a7eefa7ec294bebd8f65a593758522f88dc6623901794fe71827", func := "vendmeter/vendmeterlaw.DiskAppends", spec := "diskAppends", unfollowed := true, recurses := true, plainKeys := false, apart := false }
def DiskAppendsSaid : Prop := diskAppendsRow.holds Try.pinned (OpenSpec.ofChange diskAppendsSpec)

/-- ITS FALSE NEIGHBOUR: 'it returns false'. Refute it at one input. -/
def diskAppendsWrong : ChangeSpec := { name := "diskAppends", fn := fun _ => fun
  | [d1, d2] => { results := [.lit (.bool false)], args := [d1, d2] }
  | _ => none }
def DiskAppendsWrongFalsely : Prop := diskAppendsRow.holds Try.pinned (OpenSpec.ofChange diskAppendsWrong)

/-- 'vendmeterlaw.BookFinds': WHATEVER THE INPUT: true; the input reads as it did. -/
def bookFindsSpec : ChangeSpec := { name := "bookFinds", fn := fun _ => fun
  | [d1, d2] => { results := [.lit (.bool true)], args := [d1, d2] }
  | _ => none }
def bookFindsRow : OpenClaim := { program := "ytgelnjcohnfmhaa", sum := "7e5755730631a7eefa7ec294bebd8f65a593758522f88dc6623901794fe71827", func := "vendmeter/vendmeterlaw.BookFinds", spec := "bookFinds", unfollowed := true, recurses := true, plainKeys := false, apart := false }
def BookFindsSaid : Prop := bookFindsRow.holds Try.pinned (OpenSpec.ofChange bookFindsSpec)

/-- ITS FALSE NEIGHBOUR: 'it returns false'. Refute it at one input. -/
def bookFindsWrong : ChangeSpec := { name := "bookFinds", fn := fun _ => fun
  | [d1, d2] => { results := [.lit (.bool false)], args := [d1, d2] }
  | _ => none }
def BookFindsWrongFalsely : Prop := bookFindsRow.holds Try.pinned (OpenSpec.ofChange bookFindsWrong)

/- THE SECOND FORM. 'bulk': how many values and letters a reading holds, each counted each time it is reached (what is shared counts as often as it is met; a slice's spare places count too). A statement '..UptoSaid' is the law's where the arguments, and the package variables that the reading takes, are together of bulk at most 1048576: NARROWER than '..Said'. Prove '..Said' where nothing that the law and all that it calls make is longer than what came in: it says more and counts as full. Else prove '..UptoSaid'. A law counts once. -/
mutual
def uptoBulk {H : Type} : DataW H → Nat
  | .lit (.string bytes) => bytes.length + 1
  | .lit _ => 1
  | .nil => 1
  | .ptr d => uptoBulk d + 1
  | .slice elems spare => uptoBulkAll elems + uptoBulkAll spare + 1
  | .agg parts => uptoBulkAll parts + 1
  | .iface _ d => uptoBulk d + 1
  | .map entries => uptoBulkEntries entries + 1
  | .held _ => 1
def uptoBulkAll {H : Type} : List (DataW H) → Nat
  | [] => 0
  | d :: r => uptoBulk d + uptoBulkAll r
def uptoBulkEntries {H : Type} : List (Lit × DataW H) → Nat
  | [] => 0
  | x :: r => uptoBulkEntry x + uptoBulkEntries r
def uptoBulkEntry {H : Type} : Lit × DataW H → Nat
  | (.string bytes, d) => bytes.length + uptoBulk d + 1
  | (_, d) => uptoBulk d + 1
 end
def uptoSmall : (H : Type) → List (DataW H) → Bool := fun _ ds => decide (uptoBulkAll ds ≤ 1048576)
def OpenSpec.upto (s : _root_.Go.ChangeSpec) : _root_.Go.OpenSpec := { _root_.Go.OpenSpec.ofChange s with cond := some uptoSmall }

/-- 'vendmeterlaw.OracleMays', WHERE WHAT IT READS IS OF BULK AT MOST 1048576: true; the input reads as it did. -/
def oracleMaysUptoRow : OpenClaim := { program := "ytgelnjcohnfmhaa", sum := "7e5755730631a7eefa7ec294bebd8f65a593758522f88dc6623901794fe71827", func := "vendmeter/vendmeterlaw.OracleMays", spec := "oracleMays", plainKeys := false, apart := false, narrowed := true }
def OracleMaysUptoSaid : Prop := oracleMaysUptoRow.holds Try.pinned (OpenSpec.upto oracleMaysSpec)

/-- 'vendmeterlaw.OracleVerifies', WHERE WHAT IT READS IS OF BULK AT MOST 1048576: true; the input reads as it did. -/
def oracleVerifiesUptoRow : OpenClaim := { program := "ytgelnjcohnfmhaa", sum := "7e5755730631a7eefa7ec294bebd8f65a593758522f88dc6623901794fe71827", func := "vendmeter/vendmeterlaw.OracleVerifies", spec := "oracleVerifies", plainKeys := false, apart := false, narrowed := true }
def OracleVerifiesUptoSaid : Prop := oracleVerifiesUptoRow.holds Try.pinned (OpenSpec.upto oracleVerifiesSpec)

/-- 'vendmeterlaw.OracleIssues', WHERE WHAT IT READS IS OF BULK AT MOST 1048576: true; the input reads as it did. -/
def oracleIssuesUptoRow : OpenClaim := { program := "ytgelnjcohnfmhaa", sum := "7e5755730631a7eefa7ec294bebd8f65a593758522f88dc6623901794fe71827", func := "vendmeter/vendmeterlaw.OracleIssues", spec := "oracleIssues", plainKeys := false, apart := false, narrowed := true }
def OracleIssuesUptoSaid : Prop := oracleIssuesUptoRow.holds Try.pinned (OpenSpec.upto oracleIssuesSpec)

/-- 'vendmeterlaw.MeterKeys', WHERE WHAT IT READS IS OF BULK AT MOST 1048576: true; the input reads as it did. -/
def meterKeysUptoRow : OpenClaim := { program := "ytgelnjcohnfmhaa", sum := "7e5755730631a7eefa7ec294bebd8f65a593758522f88dc6623901794fe71827", func := "vendmeter/vendmeterlaw.MeterKeys", spec := "meterKeys", unfollowed := true, recurses := true, plainKeys := false, apart := false, narrowed := true }
def MeterKeysUptoSaid : Prop := meterKeysUptoRow.holds Try.pinned (OpenSpec.upto meterKeysSpec)

/-- 'vendmeterlaw.MeterReads', WHERE WHAT IT READS IS OF BULK AT MOST 1048576: true; the input reads as it did. -/
def meterReadsUptoRow : OpenClaim := { program := "ytgelnjcohnfmhaa", sum := "7e5755730631a7eefa7ec294bebd8f65a593758522f88dc6623901794fe71827", func := "vendmeter/vendmeterlaw.MeterReads", spec := "meterReads", plainKeys := false, apart := false, narrowed := true }
def MeterReadsUptoSaid : Prop := meterReadsUptoRow.holds Try.pinned (OpenSpec.upto meterReadsSpec)

/-- 'vendmeterlaw.PocketMakes', WHERE WHAT IT READS IS OF BULK AT MOST 1048576: true; the input reads as it did. -/
def pocketMakesUptoRow : OpenClaim := { program := "ytgelnjcohnfmhaa", sum := "7e5755730631a7eefa7ec294bebd8f65a593758522f88dc6623901794fe71827", func := "vendmeter/vendmeterlaw.PocketMakes", spec := "pocketMakes", plainKeys := false, apart := false, narrowed := true }
def PocketMakesUptoSaid : Prop := pocketMakesUptoRow.holds Try.pinned (OpenSpec.upto pocketMakesSpec)

/-- 'vendmeterlaw.PocketBoots', WHERE WHAT IT READS IS OF BULK AT MOST 1048576: true; the input reads as it did. -/
def pocketBootsUptoRow : OpenClaim := { program := "ytgelnjcohnfmhaa", sum := "7e5755730631a7eefa7ec294bebd8f65a593758522f88dc6623901794fe71827", func := "vendmeter/vendmeterlaw.PocketBoots", spec := "pocketBoots", plainKeys := false, apart := false, narrowed := true }
def PocketBootsUptoSaid : Prop := pocketBootsUptoRow.holds Try.pinned (OpenSpec.upto pocketBootsSpec)

/-- 'vendmeterlaw.PocketTicks', WHERE WHAT IT READS IS OF BULK AT MOST 1048576: true; the input reads as it did. -/
def pocketTicksUptoRow : OpenClaim := { program := "ytgelnjcohnfmhaa", sum := "7e5755730631a7eefa7ec294bebd8f65a593758522f88dc6623901794fe71827", func := "vendmeter/vendmeterlaw.PocketTicks", spec := "pocketTicks", plainKeys := false, apart := false, narrowed := true }
def PocketTicksUptoSaid : Prop := pocketTicksUptoRow.holds Try.pinned (OpenSpec.upto pocketTicksSpec)

/-- 'vendmeterlaw.CellApplies', WHERE WHAT IT READS IS OF BULK AT MOST 1048576: true; the input reads as it did. -/
def cellAppliesUptoRow : OpenClaim := { program := "ytgelnjcohnfmhaa", sum := "7e5755730631a7eefa7ec294bebd8f65a593758522f88dc6623901794fe71827", func := "vendmeter/vendmeterlaw.CellApplies", spec := "cellApplies", unfollowed := true, recurses := true, plainKeys := false, apart := false, narrowed := true }
def CellAppliesUptoSaid : Prop := cellAppliesUptoRow.holds Try.pinned (OpenSpec.upto cellAppliesSpec)

/-- 'vendmeterlaw.DiskReplays', WHERE WHAT IT READS IS OF BULK AT MOST 1048576: true; the input reads as it did. -/
def diskReplaysUptoRow : OpenClaim := { program := "ytgelnjcohnfmhaa", sum := "7e5755730631a7eefa7ec294bebd8f65a593758522f88dc6623901794fe71827", func := "vendmeter/vendmeterlaw.DiskReplays", spec := "diskReplays", unfollowed := true, recurses := true, plainKeys := false, apart := false, narrowed := true }
def DiskReplaysUptoSaid : Prop := diskReplaysUptoRow.holds Try.pinned (OpenSpec.upto diskReplaysSpec)

/-- 'vendmeterlaw.DiskAppends', WHERE WHAT IT READS IS OF BULK AT MOST 1048576: true; the input reads as it did. -/
def diskAppendsUptoRow : OpenClaim := { program := "ytgelnjcohnfmhaa", sum := "7e5755730631a7eefa7ec294bebd8f65a593758522f88dc6623901794fe71827", func := "vendmeter/vendmeterlaw.DiskAppends", spec := "diskAppends", unfollowed := true, recurses := true, plainKeys := false, apart := false, narrowed := true }
def DiskAppendsUptoSaid : Prop := diskAppendsUptoRow.holds Try.pinned (OpenSpec.upto diskAppendsSpec)

/-- 'vendmeterlaw.BookFinds', WHERE WHAT IT READS IS OF BULK AT MOST 1048576: true; the input reads as it did. -/
def bookFindsUptoRow : OpenClaim := { program := "ytgelnjcohnfmhaa", sum := "7e5755730631a7eefa7ec294bebd8f65a593758522f88dc6623901794fe71827", func := "vendmeter/vendmeterlaw.BookFinds", spec := "bookFinds", unfollowed := true, recurses := true, plainKeys := false, apart := false, narrowed := true }
def BookFindsUptoSaid : Prop := bookFindsUptoRow.holds Try.pinned (OpenSpec.upto bookFindsSpec)

end Rows
end Go.Proofs.Ytgelnjcohnfmhaa
