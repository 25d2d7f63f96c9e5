/-
  No cell of these rows narrows 'for every input' (looked for: loops, veiled, ifaces, maps, wideKeys, modest, calm, conditions, laid).
  DERIVED. THE GIVEN ROWS OF THIS SEAT. 11 by the template 'for every input the law returns true; each argument reads behind the call as it read before'; 0 by the template 'total and deterministic' (their statements: YtohdemglbdfpfaaTotals.lean).
  GIVEN WITH THE SEED: the statements are not yours to turn. If you find one false, say at which input.
  Laid BY PROGRAM, IN A SANDBOX (cutbox-rows.mjs): the forced cells as the released guide's own fill.sh prints them over the translation d353bf19772b3318… (all of the seat's roots in one cut). By AI agents, Wed Nov 11 2026. No macro, syntax, notation, axiom, sorry.
-/
import Derived.Test.YtohdemglbdfpfaaChecked
import GoSem.Claim
import GoSem.ClaimJoined
import GoSem.ClaimMapViews
import Derived.JoinedTies
import Derived.KernelRfl
namespace Go.Proofs.Ytohdemglbdfpfaa
/- THE CELL 'sum', in the pinned program and in every row, IS THE sha256 OF THE DUMP (.gsa) THAT YtohdemglbdfpfaaProg.lean LOADS. Nothing in Lean hashes anything: it is a label: what it is worth is what the hold of that sum in a sandbox is worth. -/
noncomputable def Try.pinned : Pinned := { name := "ytohdemglbdfpfaa", sum := "d353bf19772b3318f47c49679ff628ffa72ba98214f2971fe05a99494d466c92", checked := Try.checked }
namespace Rows
def none {H : Type} : Left H := { results := [], args := [] }

/-- 'vendmeterlaw.WordsTimes': WHATEVER THE INPUT: true; the input reads as it did. -/
def wordsTimesSpec : ChangeSpec := { name := "wordsTimes", fn := fun _ => fun
  | [d1, d2] => { results := [.lit (.bool true)], args := [d1, d2] }
  | _ => none }
def wordsTimesRow : OpenClaim := { program := "ytohdemglbdfpfaa", sum := "d353bf19772b3318f47c49679ff628ffa72ba98214f2971fe05a99494d466c92", func := "vendmeter/vendmeterlaw.WordsTimes", spec := "wordsTimes", unfollowed := true, recurses := true, apart := false }
def WordsTimesSaid : Prop := wordsTimesRow.holds Try.pinned (OpenSpec.ofChange wordsTimesSpec)

/-- ITS FALSE NEIGHBOUR: 'it returns false'. Refute it at one input. -/
def wordsTimesWrong : ChangeSpec := { name := "wordsTimes", fn := fun _ => fun
  | [d1, d2] => { results := [.lit (.bool false)], args := [d1, d2] }
  | _ => none }
def WordsTimesWrongFalsely : Prop := wordsTimesRow.holds Try.pinned (OpenSpec.ofChange wordsTimesWrong)

/-- 'vendmeterlaw.WordsPuts': WHATEVER THE INPUT: true; the input reads as it did. -/
def wordsPutsSpec : ChangeSpec := { name := "wordsPuts", fn := fun _ => fun
  | [d1, d2, d3, d4] => { results := [.lit (.bool true)], args := [d1, d2, d3, d4] }
  | _ => none }
def wordsPutsRow : OpenClaim := { program := "ytohdemglbdfpfaa", sum := "d353bf19772b3318f47c49679ff628ffa72ba98214f2971fe05a99494d466c92", func := "vendmeter/vendmeterlaw.WordsPuts", spec := "wordsPuts", apart := false }
def WordsPutsSaid : Prop := wordsPutsRow.holds Try.pinned (OpenSpec.ofChange wordsPutsSpec)

/-- ITS FALSE NEIGHBOUR: 'it returns false'. Refute it at one input. -/
def wordsPutsWrong : ChangeSpec := { name := "wordsPuts", fn := fun _ => fun
  | [d1, d2, d3, d4] => { results := [.lit (.bool false)], args := [d1, d2, d3, d4] }
  | _ => none }
def WordsPutsWrongFalsely : Prop := wordsPutsRow.holds Try.pinned (OpenSpec.ofChange wordsPutsWrong)

/-- 'vendmeterlaw.WordsCmps': WHATEVER THE INPUT: true; the input reads as it did. -/
def wordsCmpsSpec : ChangeSpec := { name := "wordsCmps", fn := fun _ => fun
  | [d1, d2] => { results := [.lit (.bool true)], args := [d1, d2] }
  | _ => none }
def wordsCmpsRow : OpenClaim := { program := "ytohdemglbdfpfaa", sum := "d353bf19772b3318f47c49679ff628ffa72ba98214f2971fe05a99494d466c92", func := "vendmeter/vendmeterlaw.WordsCmps", spec := "wordsCmps", apart := false }
def WordsCmpsSaid : Prop := wordsCmpsRow.holds Try.pinned (OpenSpec.ofChange wordsCmpsSpec)

/-- ITS FALSE NEIGHBOUR: 'it returns false'. Refute it at one input. -/
def wordsCmpsWrong : ChangeSpec := { name := "wordsCmps", fn := fun _ => fun
  | [d1, d2] => { results := [.lit (.bool false)], args := [d1, d2] }
  | _ => none }
def WordsCmpsWrongFalsely : Prop := wordsCmpsRow.holds Try.pinned (OpenSpec.ofChange wordsCmpsWrong)

/-- 'vendmeterlaw.WordsReads': WHATEVER THE INPUT: true; the input reads as it did. -/
def wordsReadsSpec : ChangeSpec := { name := "wordsReads", fn := fun _ => fun
  | [d] => { results := [.lit (.bool true)], args := [d] }
  | _ => none }
def wordsReadsRow : OpenClaim := { program := "ytohdemglbdfpfaa", sum := "d353bf19772b3318f47c49679ff628ffa72ba98214f2971fe05a99494d466c92", func := "vendmeter/vendmeterlaw.WordsReads", spec := "wordsReads", unfollowed := true, recurses := true, apart := false }
def WordsReadsSaid : Prop := wordsReadsRow.holds Try.pinned (OpenSpec.ofChange wordsReadsSpec)

/-- ITS FALSE NEIGHBOUR: 'it returns false'. Refute it at one input. -/
def wordsReadsWrong : ChangeSpec := { name := "wordsReads", fn := fun _ => fun
  | [d] => { results := [.lit (.bool false)], args := [d] }
  | _ => none }
def WordsReadsWrongFalsely : Prop := wordsReadsRow.holds Try.pinned (OpenSpec.ofChange wordsReadsWrong)

/-- 'vendmeterlaw.WordsShows': WHATEVER THE INPUT: true; the input reads as it did. -/
def wordsShowsSpec : ChangeSpec := { name := "wordsShows", fn := fun _ => fun
  | [d] => { results := [.lit (.bool true)], args := [d] }
  | _ => none }
def wordsShowsRow : OpenClaim := { program := "ytohdemglbdfpfaa", sum := "d353bf19772b3318f47c49679ff628ffa72ba98214f2971fe05a99494d466c92", func := "vendmeter/vendmeterlaw.WordsShows", spec := "wordsShows", inPlace := ["internal/abi.NoEscape", "internal/bytealg.MakeNoZero"], named := ["math/bits.overflowError"], apart := false }
def WordsShowsSaid : Prop := wordsShowsRow.holds Try.pinned (OpenSpec.ofChange wordsShowsSpec)

/-- ITS FALSE NEIGHBOUR: 'it returns false'. Refute it at one input. -/
def wordsShowsWrong : ChangeSpec := { name := "wordsShows", fn := fun _ => fun
  | [d] => { results := [.lit (.bool false)], args := [d] }
  | _ => none }
def WordsShowsWrongFalsely : Prop := wordsShowsRow.holds Try.pinned (OpenSpec.ofChange wordsShowsWrong)

/-- 'vendmeterlaw.WordsBits': WHATEVER THE INPUT: true; the input reads as it did. -/
def wordsBitsSpec : ChangeSpec := { name := "wordsBits", fn := fun _ => fun
  | [d1, d2, d3] => { results := [.lit (.bool true)], args := [d1, d2, d3] }
  | _ => none }
def wordsBitsRow : OpenClaim := { program := "ytohdemglbdfpfaa", sum := "d353bf19772b3318f47c49679ff628ffa72ba98214f2971fe05a99494d466c92", func := "vendmeter/vendmeterlaw.WordsBits", spec := "wordsBits", apart := false }
def WordsBitsSaid : Prop := wordsBitsRow.holds Try.pinned (OpenSpec.ofChange wordsBitsSpec)

/-- ITS FALSE NEIGHBOUR: 'it returns false'. Refute it at one input. -/
def wordsBitsWrong : ChangeSpec := { name := "wordsBits", fn := fun _ => fun
  | [d1, d2, d3] => { results := [.lit (.bool false)], args := [d1, d2, d3] }
  | _ => none }
def WordsBitsWrongFalsely : Prop := wordsBitsRow.holds Try.pinned (OpenSpec.ofChange wordsBitsWrong)

/-- 'vendmeterlaw.WordsPlus': WHATEVER THE INPUT: true; the input reads as it did. -/
def wordsPlusSpec : ChangeSpec := { name := "wordsPlus", fn := fun _ => fun
  | [d1, d2] => { results := [.lit (.bool true)], args := [d1, d2] }
  | _ => none }
def wordsPlusRow : OpenClaim := { program := "ytohdemglbdfpfaa", sum := "d353bf19772b3318f47c49679ff628ffa72ba98214f2971fe05a99494d466c92", func := "vendmeter/vendmeterlaw.WordsPlus", spec := "wordsPlus", unfollowed := true, recurses := true, apart := false }
def WordsPlusSaid : Prop := wordsPlusRow.holds Try.pinned (OpenSpec.ofChange wordsPlusSpec)

/-- ITS FALSE NEIGHBOUR: 'it returns false'. Refute it at one input. -/
def wordsPlusWrong : ChangeSpec := { name := "wordsPlus", fn := fun _ => fun
  | [d1, d2] => { results := [.lit (.bool false)], args := [d1, d2] }
  | _ => none }
def WordsPlusWrongFalsely : Prop := wordsPlusRow.holds Try.pinned (OpenSpec.ofChange wordsPlusWrong)

/-- 'vendmeterlaw.WordsOver': WHATEVER THE INPUT: true; the input reads as it did. -/
def wordsOverSpec : ChangeSpec := { name := "wordsOver", fn := fun _ => fun
  | [d1, d2] => { results := [.lit (.bool true)], args := [d1, d2] }
  | _ => none }
def wordsOverRow : OpenClaim := { program := "ytohdemglbdfpfaa", sum := "d353bf19772b3318f47c49679ff628ffa72ba98214f2971fe05a99494d466c92", func := "vendmeter/vendmeterlaw.WordsOver", spec := "wordsOver", named := ["math/bits.overflowError"], apart := false }
def WordsOverSaid : Prop := wordsOverRow.holds Try.pinned (OpenSpec.ofChange wordsOverSpec)

/-- ITS FALSE NEIGHBOUR: 'it returns false'. Refute it at one input. -/
def wordsOverWrong : ChangeSpec := { name := "wordsOver", fn := fun _ => fun
  | [d1, d2] => { results := [.lit (.bool false)], args := [d1, d2] }
  | _ => none }
def WordsOverWrongFalsely : Prop := wordsOverRow.holds Try.pinned (OpenSpec.ofChange wordsOverWrong)

/-- 'vendmeterlaw.TokenBodies': WHATEVER THE INPUT: true; the input reads as it did. -/
def tokenBodiesSpec : ChangeSpec := { name := "tokenBodies", fn := fun _ => fun
  | [d] => { results := [.lit (.bool true)], args := [d] }
  | _ => none }
def tokenBodiesRow : OpenClaim := { program := "ytohdemglbdfpfaa", sum := "d353bf19772b3318f47c49679ff628ffa72ba98214f2971fe05a99494d466c92", func := "vendmeter/vendmeterlaw.TokenBodies", spec := "tokenBodies", apart := false }
def TokenBodiesSaid : Prop := tokenBodiesRow.holds Try.pinned (OpenSpec.ofChange tokenBodiesSpec)

/-- ITS FALSE NEIGHBOUR: 'it returns false'. Refute it at one input. -/
def tokenBodiesWrong : ChangeSpec := { name := "tokenBodies", fn := fun _ => fun
  | [d] => { results := [.lit (.bool false)], args := [d] }
  | _ => none }
def TokenBodiesWrongFalsely : Prop := tokenBodiesRow.holds Try.pinned (OpenSpec.ofChange tokenBodiesWrong)

/-- 'vendmeterlaw.TokenNumbers': WHATEVER THE INPUT: true; the input reads as it did. -/
def tokenNumbersSpec : ChangeSpec := { name := "tokenNumbers", fn := fun _ => fun
  | [d] => { results := [.lit (.bool true)], args := [d] }
  | _ => none }
def tokenNumbersRow : OpenClaim := { program := "ytohdemglbdfpfaa", sum := "d353bf19772b3318f47c49679ff628ffa72ba98214f2971fe05a99494d466c92", func := "vendmeter/vendmeterlaw.TokenNumbers", spec := "tokenNumbers", unfollowed := true, recurses := true, apart := false }
def TokenNumbersSaid : Prop := tokenNumbersRow.holds Try.pinned (OpenSpec.ofChange tokenNumbersSpec)

/-- ITS FALSE NEIGHBOUR: 'it returns false'. Refute it at one input. -/
def tokenNumbersWrong : ChangeSpec := { name := "tokenNumbers", fn := fun _ => fun
  | [d] => { results := [.lit (.bool false)], args := [d] }
  | _ => none }
def TokenNumbersWrongFalsely : Prop := tokenNumbersRow.holds Try.pinned (OpenSpec.ofChange tokenNumbersWrong)

/-- 'vendmeterlaw.TokenFormats': WHATEVER THE INPUT: true; the input reads as it did. -/
def tokenFormatsSpec : ChangeSpec := { name := "tokenFormats", fn := fun _ => fun
  | [d] => { results := [.lit (.bool true)], args := [d] }
  | _ => none }
def tokenFormatsRow : OpenClaim := { program := "ytohdemglbdfpfaa", sum := "d353bf19772b3318f47c49679ff628ffa72ba98214f2971fe05a99494d466c92", func := "vendmeter/vendmeterlaw.TokenFormats", spec := "tokenFormats", inPlace := ["internal/abi.NoEscape", "internal/bytealg.MakeNoZero"], unfollowed := true, recurses := true, named := ["math/bits.overflowError"], apart := false }
def TokenFormatsSaid : Prop := tokenFormatsRow.holds Try.pinned (OpenSpec.ofChange tokenFormatsSpec)

/-- ITS FALSE NEIGHBOUR: 'it returns false'. Refute it at one input. -/
def tokenFormatsWrong : ChangeSpec := { name := "tokenFormats", fn := fun _ => fun
  | [d] => { results := [.lit (.bool false)], args := [d] }
  | _ => none }
def TokenFormatsWrongFalsely : Prop := tokenFormatsRow.holds Try.pinned (OpenSpec.ofChange tokenFormatsWrong)

/- THE SECOND FORM. 'bulk': how many values and letters a reading holds, each counted each time it is reached (what is shared counts as often as it is met; a slice's spare places count too). A statement '..UptoSaid' is the law's where the arguments, and the package variables that the reading takes, are together of bulk at most 1048576: NARROWER than '..Said'. Prove '..Said' where nothing that the law and all that it calls make is longer than what came in: it says more and counts as full. Else prove '..UptoSaid'. A law counts once. -/
mutual
def uptoBulk {H : Type} : DataW H → Nat
  | .lit (.string bytes) => bytes.length + 1
  | .lit _ => 1
  | .nil => 1
  | .ptr d => uptoBulk d + 1
  | .slice elems spare => uptoBulkAll elems + uptoBulkAll spare + 1
  | .agg parts => uptoBulkAll parts + 1
  | .iface _ d => uptoBulk d + 1
  | .map entries => uptoBulkEntries entries + 1
  | .held _ => 1
def uptoBulkAll {H : Type} : List (DataW H) → Nat
  | [] => 0
  | d :: r => uptoBulk d + uptoBulkAll r
def uptoBulkEntries {H : Type} : List (Lit × DataW H) → Nat
  | [] => 0
  | x :: r => uptoBulkEntry x + uptoBulkEntries r
def uptoBulkEntry {H : Type} : Lit × DataW H → Nat
  | (.string bytes, d) => bytes.length + uptoBulk d + 1
  | (_, d) => uptoBulk d + 1
 end
def uptoSmall : (H : Type) → List (DataW H) → Bool := fun _ ds => decide (uptoBulkAll ds ≤ 1048576)
def OpenSpec.upto (s : _root_.Go.ChangeSpec) : _root_.Go.OpenSpec := { _root_.Go.OpenSpec.ofChange s with cond := some uptoSmall }

/-- 'vendmeterlaw.WordsTimes', WHERE WHAT IT READS IS OF BULK AT MOST 1048576: true; the input reads as it did. -/
def wordsTimesUptoRow : OpenClaim := { program := "ytohdemglbdfpfaa", sum := "d353bf19772b3318f47c49679ff628ffa72ba98214f2971fe05a99494d466c92", func := "vendmeter/vendmeterlaw.WordsTimes", spec := "wordsTimes", unfollowed := true, recurses := true, apart := false, narrowed := true }
def WordsTimesUptoSaid : Prop := wordsTimesUptoRow.holds Try.pinned (OpenSpec.upto wordsTimesSpec)

/-- 'vendmeterlaw.WordsPuts', WHERE WHAT IT READS IS OF BULK AT MOST 1048576: true; the input reads as it did. -/
def wordsPutsUptoRow : OpenClaim := { program := "ytohdemglbdfpfaa", sum := "d353bf19772b3318f47c49679ff628ffa72ba98214f2971fe05a99494d466c92", func := "vendmeter/vendmeterlaw.WordsPuts", spec := "wordsPuts", apart := false, narrowed := true }
def WordsPutsUptoSaid : Prop := wordsPutsUptoRow.holds Try.pinned (OpenSpec.upto wordsPutsSpec)

/-- 'vendmeterlaw.WordsCmps', WHERE WHAT IT READS IS OF BULK AT MOST 1048576: true; the input reads as it did. -/
def wordsCmpsUptoRow : OpenClaim := { program := "ytohdemglbdfpfaa", sum := "d353bf19772b3318f47c49679ff628ffa72ba98214f2971fe05a99494d466c92", func := "vendmeter/vendmeterlaw.WordsCmps", spec := "wordsCmps", apart := false, narrowed := true }
def WordsCmpsUptoSaid : Prop := wordsCmpsUptoRow.holds Try.pinned (OpenSpec.upto wordsCmpsSpec)

/-- 'vendmeterlaw.WordsReads', WHERE WHAT IT READS IS OF BULK AT MOST 1048576: true; the input reads as it did. -/
def wordsReadsUptoRow : OpenClaim := { program := "ytohdemglbdfpfaa", sum := "d353bf19772b3318f47c49679ff628ffa72ba98214f2971fe05a99494d466c92", func := "vendmeter/vendmeterlaw.WordsReads", spec := "wordsReads", unfollowed := true, recurses := true, apart := false, narrowed := true }
def WordsReadsUptoSaid : Prop := wordsReadsUptoRow.holds Try.pinned (OpenSpec.upto wordsReadsSpec)

/-- 'vendmeterlaw.WordsShows', WHERE WHAT IT READS IS OF BULK AT MOST 1048576: true; the input reads as it did. -/
def wordsShowsUptoRow : OpenClaim := { program := "ytohdemglbdfpfaa", sum := "d353bf19772b3318f47c49679ff628ffa72ba98214f2971fe05a99494d466c92", func := "vendmeter/vendmeterlaw.WordsShows", spec := "wordsShows", inPlace := ["internal/abi.NoEscape", "internal/bytealg.MakeNoZero"], named := ["math/bits.overflowError"], apart := false, narrowed := true }
def WordsShowsUptoSaid : Prop := wordsShowsUptoRow.holds Try.pinned (OpenSpec.upto wordsShowsSpec)

/-- 'vendmeterlaw.WordsBits', WHERE WHAT IT READS IS OF BULK AT MOST 1048576: true; the input reads as it did. -/
def wordsBitsUptoRow : OpenClaim := { program := "ytohdemglbdfpfaa", sum := "d353bf19772b3318f47c49679ff628ffa72ba98214f2971fe05a99494d466c92", func := "vendmeter/vendmeterlaw.WordsBits", spec := "wordsBits", apart := false, narrowed := true }
def WordsBitsUptoSaid : Prop := wordsBitsUptoRow.holds Try.pinned (OpenSpec.upto wordsBitsSpec)

/-- 'vendmeterlaw.WordsPlus', WHERE WHAT IT READS IS OF BULK AT MOST 1048576: true; the input reads as it did. -/
def wordsPlusUptoRow : OpenClaim := { program := "ytohdemglbdfpfaa", sum := "d353bf19772b3318f47c49679ff628ffa72ba98214f2971fe05a99494d466c92", func := "vendmeter/vendmeterlaw.WordsPlus", spec := "wordsPlus", unfollowed := true, recurses := true, apart := false, narrowed := true }
def WordsPlusUptoSaid : Prop := wordsPlusUptoRow.holds Try.pinned (OpenSpec.upto wordsPlusSpec)

/-- 'vendmeterlaw.WordsOver', WHERE WHAT IT READS IS OF BULK AT MOST 1048576: true; the input reads as it did. -/
def wordsOverUptoRow : OpenClaim := { program := "ytohdemglbdfpfaa", sum := "d353bf19772b3318f47c49679ff628ffa72ba98214f2971fe05a99494d466c92", func := "vendmeter/vendmeterlaw.WordsOver", spec := "wordsOver", named := ["math/bits.overflowError"], apart := false, narrowed := true }
def WordsOverUptoSaid : Prop := wordsOverUptoRow.holds Try.pinned (OpenSpec.upto wordsOverSpec)

/-- 'vendmeterlaw.TokenBodies', WHERE WHAT IT READS IS OF BULK AT MOST 1048576: true; the input reads as it did. -/
def tokenBodiesUptoRow : OpenClaim := { program := "ytohdemglbdfpfaa", sum := "d353bf19772b3318f47c49679ff628ffa72ba98214f2971fe05a99494d466c92", func := "vendmeter/vendmeterlaw.TokenBodies", spec := "tokenBodies", apart := false, narrowed := true }
def TokenBodiesUptoSaid : Prop := tokenBodiesUptoRow.holds Try.pinned (OpenSpec.upto tokenBodiesSpec)

/-- 'vendmeterlaw.TokenNumbers', WHERE WHAT IT READS IS OF BULK AT MOST 1048576: true; the input reads as it did. -/
def tokenNumbersUptoRow : OpenClaim := { program := "ytohdemglbdfpfaa", sum := "d353bf19772b3318f47c49679ff628ffa72ba98214f2971fe05a99494d466c92", func := "vendmeter/vendmeterlaw.TokenNumbers", spec := "tokenNumbers", unfollowed := true, recurses := true, apart := false, narrowed := true }
def TokenNumbersUptoSaid : Prop := tokenNumbersUptoRow.holds Try.pinned (OpenSpec.upto tokenNumbersSpec)

/-- 'vendmeterlaw.TokenFormats', WHERE WHAT IT READS IS OF BULK AT MOST 1048576: true; the input reads as it did. -/
def tokenFormatsUptoRow : OpenClaim := { program := "ytohdemglbdfpfaa", sum := "d353bf19772b3318f47c49679ff628ffa72ba98214f2971fe05a99494d466c92", func := "vendmeter/vendmeterlaw.TokenFormats", spec := "tokenFormats", inPlace := ["internal/abi.NoEscape", "internal/bytealg.MakeNoZero"], unfollowed := true, recurses := true, named := ["math/bits.overflowError"], apart := false, narrowed := true }
def TokenFormatsUptoSaid : Prop := tokenFormatsUptoRow.holds Try.pinned (OpenSpec.upto tokenFormatsSpec)

end Rows
end Go.Proofs.Ytohdemglbdfpfaa
