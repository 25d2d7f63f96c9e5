/-
  No cell of these rows narrows 'for every input' (looked for: loops, veiled, ifaces, maps, wideKeys, modest, calm, conditions, laid).
  DERIVED. THE GIVEN ROWS OF THIS SEAT. 8 by the template 'for every input the law returns true; each argument reads behind the call as it read before'; 0 by the template 'total and deterministic' (their statements: YtnofknkiffnpaaaTotals.lean).
  GIVEN WITH THE SEED: the statements are not yours to turn. If you find one false, say at which input.
  Laid BY PROGRAM, IN A SANDBOX (cutbox-rows.mjs): the forced cells as the released guide's own fill.sh prints them over the translation 93e74ff98a06cc1e… (all of the seat's roots in one cut). By AI agents, Wed Nov 11 2026. No macro, syntax, notation, axiom, sorry.
-/
import Derived.Test.YtnofknkiffnpaaaChecked
import GoSem.Claim
import GoSem.ClaimJoined
import GoSem.ClaimMapViews
import Derived.JoinedTies
import Derived.KernelRfl
namespace Go.Proofs.Ytnofknkiffnpaaa
/- THE CELL 'sum', in the pinned program and in every row, IS THE sha256 OF THE DUMP (.gsa) THAT YtnofknkiffnpaaaProg.lean LOADS. Nothing in Lean hashes anything: it is a label: what it is worth is what the hold of that sum in a sandbox is worth. -/
noncomputable def Try.pinned : Pinned := { name := "ytnofknkiffnpaaa", sum := "93e74ff98a06cc1e187395d92573514c5c95886df0e89e8f25671835134ed20f", checked := Try.checked }
namespace Rows
def none {H : Type} : Left H := { results := [], args := [] }

/-- 'vendmeterlaw.MeterBegins': WHATEVER THE INPUT: true; the input reads as it did. -/
def meterBeginsSpec : ChangeSpec := { name := "meterBegins", fn := fun _ => fun
  | [d] => { results := [.lit (.bool true)], args := [d] }
  | _ => none }
def meterBeginsRow : OpenClaim := { program := "ytnofknkiffnpaaa", sum := "93e74ff98a06cc1e187395d92573514c5c95886df0e89e8f25671835134ed20f", func := "vendmeter/vendmeterlaw.MeterBegins", spec := "meterBegins", plainKeys := false, apart := false }
def MeterBeginsSaid : Prop := meterBeginsRow.holds Try.pinned (OpenSpec.ofChange meterBeginsSpec)

/-- ITS FALSE NEIGHBOUR: 'it returns false'. Refute it at one input. -/
def meterBeginsWrong : ChangeSpec := { name := "meterBegins", fn := fun _ => fun
  | [d] => { results := [.lit (.bool false)], args := [d] }
  | _ => none }
def MeterBeginsWrongFalsely : Prop := meterBeginsRow.holds Try.pinned (OpenSpec.ofChange meterBeginsWrong)

/-- 'vendmeterlaw.MeterWords': WHATEVER THE INPUT: true; the input reads as it did. -/
def meterWordsSpec : ChangeSpec := { name := "meterWords", fn := fun _ => fun
  | [d] => { results := [.lit (.bool true)], args := [d] }
  | _ => none }
def meterWordsRow : OpenClaim := { program := "ytnofknkiffnpaaa", sum := "93e74ff98a06cc1e187395d92573514c5c95886df0e89e8f25671835134ed20f", func := "vendmeter/vendmeterlaw.MeterWords", spec := "meterWords", plainKeys := false, apart := false }
def MeterWordsSaid : Prop := meterWordsRow.holds Try.pinned (OpenSpec.ofChange meterWordsSpec)

/-- ITS FALSE NEIGHBOUR: 'it returns false'. Refute it at one input. -/
def meterWordsWrong : ChangeSpec := { name := "meterWords", fn := fun _ => fun
  | [d] => { results := [.lit (.bool false)], args := [d] }
  | _ => none }
def MeterWordsWrongFalsely : Prop := meterWordsRow.holds Try.pinned (OpenSpec.ofChange meterWordsWrong)

/-- 'vendmeterlaw.MeterTicks': WHATEVER THE INPUT: true; the input reads as it did. -/
def meterTicksSpec : ChangeSpec := { name := "meterTicks", fn := fun _ => fun
  | [d1, d2] => { results := [.lit (.bool true)], args := [d1, d2] }
  | _ => none }
def meterTicksRow : OpenClaim := { program := "ytnofknkiffnpaaa", sum := "93e74ff98a06cc1e187395d92573514c5c95886df0e89e8f25671835134ed20f", func := "vendmeter/vendmeterlaw.MeterTicks", spec := "meterTicks", plainKeys := false, apart := false }
def MeterTicksSaid : Prop := meterTicksRow.holds Try.pinned (OpenSpec.ofChange meterTicksSpec)

/-- ITS FALSE NEIGHBOUR: 'it returns false'. Refute it at one input. -/
def meterTicksWrong : ChangeSpec := { name := "meterTicks", fn := fun _ => fun
  | [d1, d2] => { results := [.lit (.bool false)], args := [d1, d2] }
  | _ => none }
def MeterTicksWrongFalsely : Prop := meterTicksRow.holds Try.pinned (OpenSpec.ofChange meterTicksWrong)

/-- 'vendmeterlaw.MeterReads': WHATEVER THE INPUT: true; the input reads as it did. -/
def meterReadsSpec : ChangeSpec := { name := "meterReads", fn := fun _ => fun
  | [d] => { results := [.lit (.bool true)], args := [d] }
  | _ => none }
def meterReadsRow : OpenClaim := { program := "ytnofknkiffnpaaa", sum := "93e74ff98a06cc1e187395d92573514c5c95886df0e89e8f25671835134ed20f", func := "vendmeter/vendmeterlaw.MeterReads", spec := "meterReads", plainKeys := false, apart := false }
def MeterReadsSaid : Prop := meterReadsRow.holds Try.pinned (OpenSpec.ofChange meterReadsSpec)

/-- ITS FALSE NEIGHBOUR: 'it returns false'. Refute it at one input. -/
def meterReadsWrong : ChangeSpec := { name := "meterReads", fn := fun _ => fun
  | [d] => { results := [.lit (.bool false)], args := [d] }
  | _ => none }
def MeterReadsWrongFalsely : Prop := meterReadsRow.holds Try.pinned (OpenSpec.ofChange meterReadsWrong)

/-- 'vendmeterlaw.MeterKeys': WHATEVER THE INPUT: true; the input reads as it did. -/
def meterKeysSpec : ChangeSpec := { name := "meterKeys", fn := fun _ => fun
  | [d1, d2, d3] => { results := [.lit (.bool true)], args := [d1, d2, d3] }
  | _ => none }
def meterKeysRow : OpenClaim := { program := "ytnofknkiffnpaaa", sum := "93e74ff98a06cc1e187395d92573514c5c95886df0e89e8f25671835134ed20f", func := "vendmeter/vendmeterlaw.MeterKeys", spec := "meterKeys", unfollowed := true, recurses := true, plainKeys := false, apart := false }
def MeterKeysSaid : Prop := meterKeysRow.holds Try.pinned (OpenSpec.ofChange meterKeysSpec)

/-- ITS FALSE NEIGHBOUR: 'it returns false'. Refute it at one input. -/
def meterKeysWrong : ChangeSpec := { name := "meterKeys", fn := fun _ => fun
  | [d1, d2, d3] => { results := [.lit (.bool false)], args := [d1, d2, d3] }
  | _ => none }
def MeterKeysWrongFalsely : Prop := meterKeysRow.holds Try.pinned (OpenSpec.ofChange meterKeysWrong)

/-- 'vendmeterlaw.PocketMakes': WHATEVER THE INPUT: true; the input reads as it did. -/
def pocketMakesSpec : ChangeSpec := { name := "pocketMakes", fn := fun _ => fun
  | [d] => { results := [.lit (.bool true)], args := [d] }
  | _ => none }
def pocketMakesRow : OpenClaim := { program := "ytnofknkiffnpaaa", sum := "93e74ff98a06cc1e187395d92573514c5c95886df0e89e8f25671835134ed20f", func := "vendmeter/vendmeterlaw.PocketMakes", spec := "pocketMakes", plainKeys := false, apart := false }
def PocketMakesSaid : Prop := pocketMakesRow.holds Try.pinned (OpenSpec.ofChange pocketMakesSpec)

/-- ITS FALSE NEIGHBOUR: 'it returns false'. Refute it at one input. -/
def pocketMakesWrong : ChangeSpec := { name := "pocketMakes", fn := fun _ => fun
  | [d] => { results := [.lit (.bool false)], args := [d] }
  | _ => none }
def PocketMakesWrongFalsely : Prop := pocketMakesRow.holds Try.pinned (OpenSpec.ofChange pocketMakesWrong)

/-- 'vendmeterlaw.PocketBoots': WHATEVER THE INPUT: true; the input reads as it did. -/
def pocketBootsSpec : ChangeSpec := { name := "pocketBoots", fn := fun _ => fun
  | [d] => { results := [.lit (.bool true)], args := [d] }
  | _ => none }
def pocketBootsRow : OpenClaim := { program := "ytnofknkiffnpaaa", sum := "93e74ff98a06cc1e187395d92573514c5c95886df0e89e8f25671835134ed20f", func := "vendmeter/vendmeterlaw.PocketBoots", spec := "pocketBoots", plainKeys := false, apart := false }
def PocketBootsSaid : Prop := pocketBootsRow.holds Try.pinned (OpenSpec.ofChange pocketBootsSpec)

/-- ITS FALSE NEIGHBOUR: 'it returns false'. Refute it at one input. -/
def pocketBootsWrong : ChangeSpec := { name := "pocketBoots", fn := fun _ => fun
  | [d] => { results := [.lit (.bool false)], args := [d] }
  | _ => none }
def PocketBootsWrongFalsely : Prop := pocketBootsRow.holds Try.pinned (OpenSpec.ofChange pocketBootsWrong)

/-- 'vendmeterlaw.PocketTicks': WHATEVER THE INPUT: true; the input reads as it did. -/
def pocketTicksSpec : ChangeSpec := { name := "pocketTicks", fn := fun _ => fun
  | [d1, d2] => { results := [.lit (.bool true)], args := [d1, d2] }
  | _ => none }
def pocketTicksRow : OpenClaim := { program := "ytnofknkiffnpaaa", sum := "93e74ff98a06cc1e187395d92573514c5c95886df0e89e8f25671835134ed20f", func := "vendmeter/vendmeterlaw.PocketTicks", spec := "pocketTicks", plainKeys := false, apart := false }
def PocketTicksSaid : Prop := pocketTicksRow.holds Try.pinned (OpenSpec.ofChange pocketTicksSpec)

/-- ITS FALSE NEIGHBOUR: 'it returns false'. Refute it at one input. -/
def pocketTicksWrong : ChangeSpec := { name := "pocketTicks", fn := fun _ => fun
  | [d1, d2] => { results := [.lit (.bool false)], args := [d1, d2] }
  | _ => none }
def PocketTicksWrongFalsely : Prop := pocketTicksRow.holds Try.pinned (OpenSpec.ofChange pocketTicksWrong)

/- THE SECOND FORM. 'bulk': how many values and letters a reading holds, each counted each time it is reached (what is shared counts as often as it is met; a slice's spare places count too). A statement '..UptoSaid' is the law's where the arguments, and the package variables that the reading takes, are together of bulk at most 1048576: NARROWER than '..Said'. Prove '..Said' where nothing that the law and all that it calls make is longer than what came in: it says more and counts as full. Else prove '..UptoSaid'. A law counts once. -/
mutual
def uptoBulk {H : Type} : DataW H → Nat
  | .lit (.string bytes) => bytes.length + 1
  | .lit _ => 1
  | .nil => 1
  | .ptr d => uptoBulk d + 1
  | .slice elems spare => uptoBulkAll elems + uptoBulkAll spare + 1
  | .agg parts => uptoBulkAll parts + 1
  | .iface _ d => uptoBulk d + 1
  | .map entries => uptoBulkEntries entries + 1
  | .held _ => 1
def uptoBulkAll {H : Type} : List (DataW H) → Nat
  | [] => 0
  | d :: r => uptoBulk d + uptoBulkAll r
def uptoBulkEntries {H : Type} : List (Lit × DataW H) → Nat
  | [] => 0
  | x :: r => uptoBulkEntry x + uptoBulkEntries r
def uptoBulkEntry {H : Type} : Lit × DataW H → Nat
  | (.string bytes, d) => bytes.length + uptoBulk d + 1
  | (_, d) => uptoBulk d + 1
 end
def uptoSmall : (H : Type) → List (DataW H) → Bool := fun _ ds => decide (uptoBulkAll ds ≤ 1048576)
def OpenSpec.upto (s : _root_.Go.ChangeSpec) : _root_.Go.OpenSpec := { _root_.Go.OpenSpec.ofChange s with cond := some uptoSmall }

/-- 'vendmeterlaw.MeterBegins', WHERE WHAT IT READS IS OF BULK AT MOST 1048576: true; the input reads as it did. -/
def meterBeginsUptoRow : OpenClaim := { program := "ytnofknkiffnpaaa", sum := "93e74ff98a06cc1e187395d92573514c5c95886df0e89e8f25671835134ed20f", func := "vendmeter/vendmeterlaw.MeterBegins", spec := "meterBegins", plainKeys := false, apart := false, narrowed := true }
def MeterBeginsUptoSaid : Prop := meterBeginsUptoRow.holds Try.pinned (OpenSpec.upto meterBeginsSpec)

/-- 'vendmeterlaw.MeterWords', WHERE WHAT IT READS IS OF BULK AT MOST 1048576: true; the input reads as it did. -/
def meterWordsUptoRow : OpenClaim := { program := "ytnofknkiffnpaaa", sum := "93e74ff98a06cc1e187395d92573514c5c95886df0e89e8f25671835134ed20f", func := "vendmeter/vendmeterlaw.MeterWords", spec := "meterWords", plainKeys := false, apart := false, narrowed := true }
def MeterWordsUptoSaid : Prop := meterWordsUptoRow.holds Try.pinned (OpenSpec.upto meterWordsSpec)

/-- 'vendmeterlaw.MeterTicks', WHERE WHAT IT READS IS OF BULK AT MOST 1048576: true; the input reads as it did. -/
def meterTicksUptoRow : OpenClaim := { program := "ytnofknkiffnpaaa", sum := "93e74ff98a06cc1e187395d92573514c5c95886df0e89e8f25671835134ed20f", func := "vendmeter/vendmeterlaw.MeterTicks", spec := "meterTicks", plainKeys := false, apart := false, narrowed := true }
def MeterTicksUptoSaid : Prop := meterTicksUptoRow.holds Try.pinned (OpenSpec.upto meterTicksSpec)

/-- 'vendmeterlaw.MeterReads', WHERE WHAT IT READS IS OF BULK AT MOST 1048576: true; the input reads as it did. -/
def meterReadsUptoRow : OpenClaim := { program := "ytnofknkiffnpaaa", sum := "93e74ff98a06cc1e187395d92573514c5c95886df0e89e8f25671835134ed20f", func := "vendmeter/vendmeterlaw.MeterReads", spec := "meterReads", plainKeys := false, apart := false, narrowed := true }
def MeterReadsUptoSaid : Prop := meterReadsUptoRow.holds Try.pinned (OpenSpec.upto meterReadsSpec)

/-- 'vendmeterlaw.MeterKeys', WHERE WHAT IT READS IS OF BULK AT MOST 1048576: true; the input reads as it did. -/
def meterKeysUptoRow : OpenClaim := { program := "ytnofknkiffnpaaa", sum := "93e74ff98a06cc1e187395d92573514c5c95886df0e89e8f25671835134ed20f", func := "vendmeter/vendmeterlaw.MeterKeys", spec := "meterKeys", unfollowed := true, recurses := true, plainKeys := false, apart := false, narrowed := true }
def MeterKeysUptoSaid : Prop := meterKeysUptoRow.holds Try.pinned (OpenSpec.upto meterKeysSpec)

/-- 'vendmeterlaw.PocketMakes', WHERE WHAT IT READS IS OF BULK AT MOST 1048576: true; the input reads as it did. -/
def pocketMakesUptoRow : OpenClaim := { program := "ytnofknkiffnpaaa", sum := "93e74ff98a06cc1e187395d92573514c5c95886df0e89e8f25671835134ed20f", func := "vendmeter/vendmeterlaw.PocketMakes", spec := "pocketMakes", plainKeys := false, apart := false, narrowed := true }
def PocketMakesUptoSaid : Prop := pocketMakesUptoRow.holds Try.pinned (OpenSpec.upto pocketMakesSpec)

/-- 'vendmeterlaw.PocketBoots', WHERE WHAT IT READS IS OF BULK AT MOST 1048576: true; the input reads as it did. -/
def pocketBootsUptoRow : OpenClaim := { program := "ytnofknkiffnpaaa", sum := "93e74ff98a06cc1e187395d92573514c5c95886df0e89e8f25671835134ed20f", func := "vendmeter/vendmeterlaw.PocketBoots", spec := "pocketBoots", plainKeys := false, apart := false, narrowed := true }
def PocketBootsUptoSaid : Prop := pocketBootsUptoRow.holds Try.pinned (OpenSpec.upto pocketBootsSpec)

/-- 'vendmeterlaw.PocketTicks', WHERE WHAT IT READS IS OF BULK AT MOST 1048576: true; the input reads as it did. -/
def pocketTicksUptoRow : OpenClaim := { program := "ytnofknkiffnpaaa", sum := "93e74ff98a06cc1e187395d92573514c5c95886df0e89e8f25671835134ed20f", func := "vendmeter/vendmeterlaw.PocketTicks", spec := "pocketTicks", plainKeys := false, apart := false, narrowed := true }
def PocketTicksUptoSaid : Prop := pocketTicksUptoRow.holds Try.pinned (OpenSpec.upto pocketTicksSpec)

end Rows
end Go.Proofs.Ytnofknkiffnpaaa
