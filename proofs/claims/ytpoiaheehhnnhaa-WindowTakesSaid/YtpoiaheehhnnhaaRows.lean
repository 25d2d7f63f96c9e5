/-
  No cell of these rows narrows 'for every input' (looked for: loops, veiled, ifaces, maps, wideKeys, modest, calm, conditions, laid).
  DERIVED. THE GIVEN ROWS OF THIS SEAT. 12 by the template 'for every input the law returns true; each argument reads behind the call as it read before'; 0 by the template 'total and deterministic' (their statements: YtpoiaheehhnnhaaTotals.lean).
  GIVEN WITH THE SEED: the statements are not yours to turn. If you find one false, say at which input.
  Laid BY PROGRAM, IN A SANDBOX (cutbox-rows.mjs): the forced cells as the released guide's own fill.sh prints them over the translation 63930cbc394ff49e… (all of the seat's roots in one cut). By AI agents, Wed Nov 11 2026. No macro, syntax, notation, axiom, sorry.
-/
import Derived.Test.YtpoiaheehhnnhaaChecked
import GoSem.Claim
import GoSem.ClaimJoined
import GoSem.ClaimMapViews
import Derived.JoinedTies
import Derived.KernelRfl
namespace Go.Proofs.Ytpoiaheehhnnhaa
/- THE CELL 'sum', in the pinned program and in every row, IS THE sha256 OF THE DUMP (.gsa) THAT YtpoiaheehhnnhaaProg.lean LOADS. Nothing in Lean hashes anything: it is a label: what it is worth is what the hold of that sum in a sandbox is worth. -/
noncomputable def Try.pinned : Pinned := { name := "ytpoiaheehhnnhaa", sum := "63930cbc394ff49ebc9a31ee9b34bb1aa5659502a9e42f70b7030058c95caa26", checked := Try.checked }
namespace Rows
def none {H : Type} : Left H := { results := [], args := [] }

/-- 'vendmeterlaw.CellApplies': WHATEVER THE INPUT: true; the input reads as it did. -/
def cellAppliesSpec : ChangeSpec := { name := "cellApplies", fn := fun _ => fun
  | [d1, d2, d3] => { results := [.lit (.bool true)], args := [d1, d2, d3] }
  | _ => none }
def cellAppliesRow : OpenClaim := { program := "ytpoiaheehhnnhaa", sum := "63930cbc394ff49ebc9a31ee9b34bb1aa5659502a9e42f70b7030058c95caa26", func := "vendmeter/vendmeterlaw.CellApplies", spec := "cellApplies", unfollowed := true, recurses := true, plainKeys := false, apart := false }
def CellAppliesSaid : Prop := cellAppliesRow.holds Try.pinned (OpenSpec.ofChange cellAppliesSpec)

/-- ITS FALSE NEIGHBOUR: 'it returns false'. Refute it at one input. -/
def cellAppliesWrong : ChangeSpec := { name := "cellApplies", fn := fun _ => fun
  | [d1, d2, d3] => { results := [.lit (.bool false)], args := [d1, d2, d3] }
  | _ => none }
def CellAppliesWrongFalsely : Prop := cellAppliesRow.holds Try.pinned (OpenSpec.ofChange cellAppliesWrong)

/-- 'vendmeterlaw.SlotLoads': WHATEVER THE INPUT: true; the input reads as it did. -/
def slotLoadsSpec : ChangeSpec := { name := "slotLoads", fn := fun _ => fun
  | [d1, d2] => { results := [.lit (.bool true)], args := [d1, d2] }
  | _ => none }
def slotLoadsRow : OpenClaim := { program := "ytpoiaheehhnnhaa", sum := "63930cbc394ff49ebc9a31ee9b34bb1aa5659502a9e42f70b7030058c95caa26", func := "vendmeter/vendmeterlaw.SlotLoads", spec := "slotLoads", plainKeys := false, apart := false }
def SlotLoadsSaid : Prop := slotLoadsRow.holds Try.pinned (OpenSpec.ofChange slotLoadsSpec)

/-- ITS FALSE NEIGHBOUR: 'it returns false'. Refute it at one input. -/
def slotLoadsWrong : ChangeSpec := { name := "slotLoads", fn := fun _ => fun
  | [d1, d2] => { results := [.lit (.bool false)], args := [d1, d2] }
  | _ => none }
def SlotLoadsWrongFalsely : Prop := slotLoadsRow.holds Try.pinned (OpenSpec.ofChange slotLoadsWrong)

/-- 'vendmeterlaw.SlotStores': WHATEVER THE INPUT: true; the input reads as it did. -/
def slotStoresSpec : ChangeSpec := { name := "slotStores", fn := fun _ => fun
  | [d1, d2] => { results := [.lit (.bool true)], args := [d1, d2] }
  | _ => none }
def slotStoresRow : OpenClaim := { program := "ytpoiaheehhnnhaa", sum := "63930cbc394ff49ebc9a31ee9b34bb1aa5659502a9e42f70b7030058c95caa26", func := "vendmeter/vendmeterlaw.SlotStores", spec := "slotStores", plainKeys := false, apart := false }
def SlotStoresSaid : Prop := slotStoresRow.holds Try.pinned (OpenSpec.ofChange slotStoresSpec)

/-- ITS FALSE NEIGHBOUR: 'it returns false'. Refute it at one input. -/
def slotStoresWrong : ChangeSpec := { name := "slotStores", fn := fun _ => fun
  | [d1, d2] => { results := [.lit (.bool false)], args := [d1, d2] }
  | _ => none }
def SlotStoresWrongFalsely : Prop := slotStoresRow.holds Try.pinned (OpenSpec.ofChange slotStoresWrong)

/-- 'vendmeterlaw.DiskReplays': WHATEVER THE INPUT: true; the input reads as it did. -/
def diskReplaysSpec : ChangeSpec := { name := "diskReplays", fn := fun _ => fun
  | [d] => { results := [.lit (.bool true)], args := [d] }
  | _ => none }
def diskReplaysRow : OpenClaim := { program := "ytpoiaheehhnnhaa", sum := "63930cbc394ff49ebc9a31ee9b34bb1aa5659502a9e42f70b7030058c95caa26", func := "vendmeter/vendmeterlaw.DiskReplays", spec := "diskReplays", unfollowed := true, recurses := true, plainKeys := false, apart := false }
def DiskReplaysSaid : Prop := diskReplaysRow.holds Try.pinned (OpenSpec.ofChange diskReplaysSpec)

/-- ITS FALSE NEIGHBOUR: 'it returns false'. Refute it at one input. -/
def diskReplaysWrong : ChangeSpec := { name := "diskReplays", fn := fun _ => fun
  | [d] => { results := [.lit (.bool false)], args := [d] }
  | _ => none }
def DiskReplaysWrongFalsely : Prop := diskReplaysRow.holds Try.pinned (OpenSpec.ofChange diskReplaysWrong)

/-- 'vendmeterlaw.DiskAppends': WHATEVER THE INPUT: true; the input reads as it did. -/
def diskAppendsSpec : ChangeSpec := { name := "diskAppends", fn := fun _ => fun
  | [d1, d2] => { results := [.lit (.bool true)], args := [d1, d2] }
  | _ => none }
def diskAppendsRow : OpenClaim := { program := "ytpoiaheehhnnhaa", sum := "63930cbc394ff49ebc9a31ee9b34bb1aa5659502a9e42f70b7030058c95caa26", func := "vendmeter/vendmeterlaw.DiskAppends", spec := "diskAppends", unfollowed := true, recurses := true, plainKeys := false, apart := false }
def DiskAppendsSaid : Prop := diskAppendsRow.holds Try.pinned (OpenSpec.ofChange diskAppendsSpec)

/-- ITS FALSE NEIGHBOUR: 'it returns false'. Refute it at one input. -/
def diskAppendsWrong : ChangeSpec := { name := "diskAppends", fn := fun _ => fun
  | [d1, d2] => { results := [.lit (.bool false)], args := [d1, d2] }
  | _ => none }
def DiskAppendsWrongFalsely : Prop := diskAppendsRow.holds Try.pinned (OpenSpec.ofChange diskAppendsWrong)

/-- 'vendmeterlaw.WindowUses': WHATEVER THE INPUT: true; the input reads as it did. -/
def windowUsesSpec : ChangeSpec := { name := "windowUses", fn := fun _ => fun
  | [d] => { results := [.lit (.bool true)], args := [d] }
  | _ => none }
def windowUsesRow : OpenClaim := { program := "ytpoiaheehhnnhaa", sum := "63930cbc394ff49ebc9a31ee9b34bb1aa5659502a9e42f70b7030058c95caa26", func := "vendmeter/vendmeterlaw.WindowUses", spec := "windowUses", plainKeys := false, apart := false }
def WindowUsesSaid : Prop := windowUsesRow.holds Try.pinned (OpenSpec.ofChange windowUsesSpec)

/-- ITS FALSE NEIGHBOUR: 'it returns false'. Refute it at one input. -/
def windowUsesWrong : ChangeSpec := { name := "windowUses", fn := fun _ => fun
  | [d] => { results := [.lit (.bool false)], args := [d] }
  | _ => none }
def WindowUsesWrongFalsely : Prop := windowUsesRow.holds Try.pinned (OpenSpec.ofChange windowUsesWrong)

/-- 'vendmeterlaw.WindowJudges': WHATEVER THE INPUT: true; the input reads as it did. -/
def windowJudgesSpec : ChangeSpec := { name := "windowJudges", fn := fun _ => fun
  | [d1, d2] => { results := [.lit (.bool true)], args := [d1, d2] }
  | _ => none }
def windowJudgesRow : OpenClaim := { program := "ytpoiaheehhnnhaa", sum := "63930cbc394ff49ebc9a31ee9b34bb1aa5659502a9e42f70b7030058c95caa26", func := "vendmeter/vendmeterlaw.WindowJudges", spec := "windowJudges", plainKeys := false, apart := false }
def WindowJudgesSaid : Prop := windowJudgesRow.holds Try.pinned (OpenSpec.ofChange windowJudgesSpec)

/-- ITS FALSE NEIGHBOUR: 'it returns false'. Refute it at one input. -/
def windowJudgesWrong : ChangeSpec := { name := "windowJudges", fn := fun _ => fun
  | [d1, d2] => { results := [.lit (.bool false)], args := [d1, d2] }
  | _ => none }
def WindowJudgesWrongFalsely : Prop := windowJudgesRow.holds Try.pinned (OpenSpec.ofChange windowJudgesWrong)

/-- 'vendmeterlaw.WindowTakes': WHATEVER THE INPUT: true; the input reads as it did. -/
def windowTakesSpec : ChangeSpec := { name := "windowTakes", fn := fun _ => fun
  | [d1, d2] => { results := [.lit (.bool true)], args := [d1, d2] }
  | _ => none }
def windowTakesRow : OpenClaim := { program := "ytpoiaheehhnnhaa", sum := "63930cbc394ff49ebc9a31ee9b34bb1aa5659502a9e42f70b7030058c95caa26", func := "vendmeter/vendmeterlaw.WindowTakes", spec := "windowTakes", plainKeys := false, apart := false }
def WindowTakesSaid : Prop := windowTakesRow.holds Try.pinned (OpenSpec.ofChange windowTakesSpec)

/-- ITS FALSE NEIGHBOUR: 'it returns false'. Refute it at one input. -/
def windowTakesWrong : ChangeSpec := { name := "windowTakes", fn := fun _ => fun
  | [d1, d2] => { results := [.lit (.bool false)], args := [d1, d2] }
  | _ => none }
def WindowTakesWrongFalsely : Prop := windowTakesRow.holds Try.pinned (OpenSpec.ofChange windowTakesWrong)

/-- 'vendmeterlaw.OracleMays': WHATEVER THE INPUT: true; the input reads as it did. -/
def oracleMaysSpec : ChangeSpec := { name := "oracleMays", fn := fun _ => fun
  | [d] => { results := [.lit (.bool true)], args := [d] }
  | _ => none }
def oracleMaysRow : OpenClaim := { program := "ytpoiaheehhnnhaa", sum := "63930cbc394ff49ebc9a31ee9b34bb1aa5659502a9e42f70b7030058c95caa26", func := "vendmeter/vendmeterlaw.OracleMays", spec := "oracleMays", plainKeys := false, apart := false }
def OracleMaysSaid : Prop := oracleMaysRow.holds Try.pinned (OpenSpec.ofChange oracleMaysSpec)

/-- ITS FALSE NEIGHBOUR: 'it returns false'. Refute it at one input. -/
def oracleMaysWrong : ChangeSpec := { name := "oracleMays", fn := fun _ => fun
  | [d] => { results := [.lit (.bool false)], args := [d] }
  | _ => none }
def OracleMaysWrongFalsely : Prop := oracleMaysRow.holds Try.pinned (OpenSpec.ofChange oracleMaysWrong)

/-- 'vendmeterlaw.OracleVerifies': WHATEVER THE INPUT: true; the input reads as it did. -/
def oracleVerifiesSpec : ChangeSpec := { name := "oracleVerifies", fn := fun _ => fun
  | [d1, d2, d3, d4, d5] => { results := [.lit (.bool true)], args := [d1, d2, d3, d4, d5] }
  | _ => none }
def oracleVerifiesRow : OpenClaim := { program := "ytpoiaheehhnnhaa", sum := "63930cbc394ff49ebc9a31ee9b34bb1aa5659502a9e42f70b7030058c95caa26", func := "vendmeter/vendmeterlaw.OracleVerifies", spec := "oracleVerifies", plainKeys := false, apart := false }
def OracleVerifiesSaid : Prop := oracleVerifiesRow.holds Try.pinned (OpenSpec.ofChange oracleVerifiesSpec)

/-- ITS FALSE NEIGHBOUR: 'it returns false'. Refute it at one input. -/
def oracleVerifiesWrong : ChangeSpec := { name := "oracleVerifies", fn := fun _ => fun
  | [d1, d2, d3, d4, d5] => { results := [.lit (.bool false)], args := [d1, d2, d3, d4, d5] }
  | _ => none }
def OracleVerifiesWrongFalsely : Prop := oracleVerifiesRow.holds Try.pinned (OpenSpec.ofChange oracleVerifiesWrong)

/-- 'vendmeterlaw.OracleIssues': WHATEVER THE INPUT: true; the input reads as it did. -/
def oracleIssuesSpec : ChangeSpec := { name := "oracleIssues", fn := fun _ => fun
  | [d1, d2, d3, d4, d5] => { results := [.lit (.bool true)], args := [d1, d2, d3, d4, d5] }
  | _ => none }
def oracleIssuesRow : OpenClaim := { program := "ytpoiaheehhnnhaa", sum := "63930cbc394ff49ebc9a31ee9b34bb1aa5659502a9e42f70b7030058c95caa26", func := "vendmeter/vendmeterlaw.OracleIssues", spec := "oracleIssues", plainKeys := false, apart := false }
def OracleIssuesSaid : Prop := oracleIssuesRow.holds Try.pinned (OpenSpec.ofChange oracleIssuesSpec)

/-- ITS FALSE NEIGHBOUR: 'it returns false'. Refute it at one input. -/
def oracleIssuesWrong : ChangeSpec := { name := "oracleIssues", fn := fun _ => fun
  | [d1, d2, d3, d4, d5] => { results := [.lit (.bool false)], args := [d1, d2, d3, d4, d5] }
  | _ => none }
def OracleIssuesWrongFalsely : Prop := oracleIssuesRow.holds Try.pinned (OpenSpec.ofChange oracleIssuesWrong)

/-- 'vendmeterlaw.CellDiffs': WHATEVER THE INPUT: true; the input reads as it did. -/
def cellDiffsSpec : ChangeSpec := { name := "cellDiffs", fn := fun _ => fun
  | [d1, d2] => { results := [.lit (.bool true)], args := [d1, d2] }
  | _ => none }
def cellDiffsRow : OpenClaim := { program := "ytpoiaheehhnnhaa", sum := "63930cbc394ff49ebc9a31ee9b34bb1aa5659502a9e42f70b7030058c95caa26", func := "vendmeter/vendmeterlaw.CellDiffs", spec := "cellDiffs", plainKeys := false, apart := false }
def CellDiffsSaid : Prop := cellDiffsRow.holds Try.pinned (OpenSpec.ofChange cellDiffsSpec)

/-- ITS FALSE NEIGHBOUR: 'it returns false'. Refute it at one input. -/
def cellDiffsWrong : ChangeSpec := { name := "cellDiffs", fn := fun _ => fun
  | [d1, d2] => { results := [.lit (.bool false)], args := [d1, d2] }
  | _ => none }
def CellDiffsWrongFalsely : Prop := cellDiffsRow.holds Try.pinned (OpenSpec.ofChange cellDiffsWrong)

/- THE SECOND FORM. 'bulk': how many values and letters a reading holds, each counted each time it is reached (what is shared counts as often as it is met; a slice's spare places count too). A statement '..UptoSaid' is the law's where the arguments, and the package variables that the reading takes, are together of bulk at most 1048576: NARROWER than '..Said'. Prove '..Said' where nothing that the law and all that it calls make is longer than what came in: it says more and counts as full. Else prove '..UptoSaid'. A law counts once. -/
mutual
def uptoBulk {H : Type} : DataW H → Nat
  | .lit (.string bytes) => bytes.length + 1
  | .lit _ => 1
  | .nil => 1
  | .ptr d => uptoBulk d + 1
  | .slice elems spare => uptoBulkAll elems + uptoBulkAll spare + 1
  | .agg parts => uptoBulkAll parts + 1
  | .iface _ d => uptoBulk d + 1
  | .map entries => uptoBulkEntries entries + 1
  | .held _ => 1
def uptoBulkAll {H : Type} : List (DataW H) → Nat
  | [] => 0
  | d :: r => uptoBulk d + uptoBulkAll r
def uptoBulkEntries {H : Type} : List (Lit × DataW H) → Nat
  | [] => 0
  | x :: r => uptoBulkEntry x + uptoBulkEntries r
def uptoBulkEntry {H : Type} : Lit × DataW H → Nat
  | (.string bytes, d) => bytes.length + uptoBulk d + 1
  | (_, d) => uptoBulk d + 1
 end
def uptoSmall : (H : Type) → List (DataW H) → Bool := fun _ ds => decide (uptoBulkAll ds ≤ 1048576)
def OpenSpec.upto (s : _root_.Go.ChangeSpec) : _root_.Go.OpenSpec := { _root_.Go.OpenSpec.ofChange s with cond := some uptoSmall }

/-- 'vendmeterlaw.CellApplies', WHERE WHAT IT READS IS OF BULK AT MOST 1048576: true; the input reads as it did. -/
def cellAppliesUptoRow : OpenClaim := { program := "ytpoiaheehhnnhaa", sum := "63930cbc394ff49ebc9a31ee9b34bb1aa5659502a9e42f70b7030058c95caa26", func := "vendmeter/vendmeterlaw.CellApplies", spec := "cellApplies", unfollowed := true, recurses := true, plainKeys := false, apart := false, narrowed := true }
def CellAppliesUptoSaid : Prop := cellAppliesUptoRow.holds Try.pinned (OpenSpec.upto cellAppliesSpec)

/-- 'vendmeterlaw.SlotLoads', WHERE WHAT IT READS IS OF BULK AT MOST 1048576: true; the input reads as it did. -/
def slotLoadsUptoRow : OpenClaim := { program := "ytpoiaheehhnnhaa", sum := "63930cbc394ff49ebc9a31ee9b34bb1aa5659502a9e42f70b7030058c95caa26", func := "vendmeter/vendmeterlaw.SlotLoads", spec := "slotLoads", plainKeys := false, apart := false, narrowed := true }
def SlotLoadsUptoSaid : Prop := slotLoadsUptoRow.holds Try.pinned (OpenSpec.upto slotLoadsSpec)

/-- 'vendmeterlaw.SlotStores', WHERE WHAT IT READS IS OF BULK AT MOST 1048576: true; the input reads as it did. -/
def slotStoresUptoRow : OpenClaim := { program := "ytpoiaheehhnnhaa", sum := "63930cbc394ff49ebc9a31ee9b34bb1aa5659502a9e42f70b7030058c95caa26", func := "vendmeter/vendmeterlaw.SlotStores", spec := "slotStores", plainKeys := false, apart := false, narrowed := true }
def SlotStoresUptoSaid : Prop := slotStoresUptoRow.holds Try.pinned (OpenSpec.upto slotStoresSpec)

/-- 'vendmeterlaw.DiskReplays', WHERE WHAT IT READS IS OF BULK AT MOST 1048576: true; the input reads as it did. -/
def diskReplaysUptoRow : OpenClaim := { program := "ytpoiaheehhnnhaa", sum := "63930cbc394ff49ebc9a31ee9b34bb1aa5659502a9e42f70b7030058c95caa26", func := "vendmeter/vendmeterlaw.DiskReplays", spec := "diskReplays", unfollowed := true, recurses := true, plainKeys := false, apart := false, narrowed := true }
def DiskReplaysUptoSaid : Prop := diskReplaysUptoRow.holds Try.pinned (OpenSpec.upto diskReplaysSpec)

/-- 'vendmeterlaw.DiskAppends', WHERE WHAT IT READS IS OF BULK AT MOST 1048576: true; the input reads as it did. -/
def diskAppendsUptoRow : OpenClaim := { program := "ytpoiaheehhnnhaa", sum := "63930cbc394ff49ebc9a31ee9b34bb1aa5659502a9e42f70b7030058c95caa26", func := "vendmeter/vendmeterlaw.DiskAppends", spec := "diskAppends", unfollowed := true, recurses := true, plainKeys := false, apart := false, narrowed := true }
def DiskAppendsUptoSaid : Prop := diskAppendsUptoRow.holds Try.pinned (OpenSpec.upto diskAppendsSpec)

/-- 'vendmeterlaw.WindowUses', WHERE WHAT IT READS IS OF BULK AT MOST 1048576: true; the input reads as it did. -/
def windowUsesUptoRow : OpenClaim := { program := "ytpoiaheehhnnhaa", sum := "63930cbc394ff49ebc9a31ee9b34bb1aa5659502a9e42f70b7030058c95caa26", func := "vendmeter/vendmeterlaw.WindowUses", spec := "windowUses", plainKeys := false, apart := false, narrowed := true }
def WindowUsesUptoSaid : Prop := windowUsesUptoRow.holds Try.pinned (OpenSpec.upto windowUsesSpec)

/-- 'vendmeterlaw.WindowJudges', WHERE WHAT IT READS IS OF BULK AT MOST 1048576: true; the input reads as it did. -/
def windowJudgesUptoRow : OpenClaim := { program := "ytpoiaheehhnnhaa", sum := "63930cbc394ff49ebc9a31ee9b34bb1aa5659502a9e42f70b7030058c95caa26", func := "vendmeter/vendmeterlaw.WindowJudges", spec := "windowJudges", plainKeys := false, apart := false, narrowed := true }
def WindowJudgesUptoSaid : Prop := windowJudgesUptoRow.holds Try.pinned (OpenSpec.upto windowJudgesSpec)

/-- 'vendmeterlaw.WindowTakes', WHERE WHAT IT READS IS OF BULK AT MOST 1048576: true; the input reads as it did. -/
def windowTakesUptoRow : OpenClaim := { program := "ytpoiaheehhnnhaa", sum := "63930cbc394ff49ebc9a31ee9b34bb1aa5659502a9e42f70b7030058c95caa26", func := "vendmeter/vendmeterlaw.WindowTakes", spec := "windowTakes", plainKeys := false, apart := false, narrowed := true }
def WindowTakesUptoSaid : Prop := windowTakesUptoRow.holds Try.pinned (OpenSpec.upto windowTakesSpec)

/-- 'vendmeterlaw.OracleMays', WHERE WHAT IT READS IS OF BULK AT MOST 1048576: true; the input reads as it did. -/
def oracleMaysUptoRow : OpenClaim := { program := "ytpoiaheehhnnhaa", sum := "63930cbc394ff49ebc9a31ee9b34bb1aa5659502a9e42f70b7030058c95caa26", func := "vendmeter/vendmeterlaw.OracleMays", spec := "oracleMays", plainKeys := false, apart := false, narrowed := true }
def OracleMaysUptoSaid : Prop := oracleMaysUptoRow.holds Try.pinned (OpenSpec.upto oracleMaysSpec)

/-- 'vendmeterlaw.OracleVerifies', WHERE WHAT IT READS IS OF BULK AT MOST 1048576: true; the input reads as it did. -/
def oracleVerifiesUptoRow : OpenClaim := { program := "ytpoiaheehhnnhaa", sum := "63930cbc394ff49ebc9a31ee9b34bb1aa5659502a9e42f70b7030058c95caa26", func := "vendmeter/vendmeterlaw.OracleVerifies", spec := "oracleVerifies", plainKeys := false, apart := false, narrowed := true }
def OracleVerifiesUptoSaid : Prop := oracleVerifiesUptoRow.holds Try.pinned (OpenSpec.upto oracleVerifiesSpec)

/-- 'vendmeterlaw.OracleIssues', WHERE WHAT IT READS IS OF BULK AT MOST 1048576: true; the input reads as it did. -/
def oracleIssuesUptoRow : OpenClaim := { program := "ytpoiaheehhnnhaa", sum := "63930cbc394ff49ebc9a31ee9b34bb1aa5659502a9e42f70b7030058c95caa26", func := "vendmeter/vendmeterlaw.OracleIssues", spec := "oracleIssues", plainKeys := false, apart := false, narrowed := true }
def OracleIssuesUptoSaid : Prop := oracleIssuesUptoRow.holds Try.pinned (OpenSpec.upto oracleIssuesSpec)

/-- 'vendmeterlaw.CellDiffs', WHERE WHAT IT READS IS OF BULK AT MOST 1048576: true; the input reads as it did. -/
def cellDiffsUptoRow : OpenClaim := { program := "ytpoiaheehhnnhaa", sum := "63930cbc394ff49ebc9a31ee9b34bb1aa5659502a9e42f70b7030058c95caa26", func := "vendmeter/vendmeterlaw.CellDiffs", spec := "cellDiffs", plainKeys := false, apart := false, narrowed := true }
def CellDiffsUptoSaid : Prop := cellDiffsUptoRow.holds Try.pinned (OpenSpec.upto cellDiffsSpec)

end Rows
end Go.Proofs.Ytpoiaheehhnnhaa
