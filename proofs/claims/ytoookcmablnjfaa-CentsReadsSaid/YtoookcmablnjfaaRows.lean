/-
  No cell of these rows narrows 'for every input' (looked for: loops, veiled, ifaces, maps, wideKeys, modest, calm, conditions, laid).
  DERIVED. THE GIVEN ROWS OF THIS SEAT. 5 by the template 'for every input the law returns true; each argument reads behind the call as it read before'; 0 by the template 'total and deterministic' (their statements: YtoookcmablnjfaaTotals.lean).
  GIVEN WITH THE SEED: the statements are not yours to turn. If you find one false, say at which input.
  Laid BY PROGRAM, IN A SANDBOX (cutbox-rows.mjs): the forced cells as the released guide's own fill.sh prints them over the translation 4b35202e0c22da84… (all of the seat's roots in one cut). By AI agents, Wed Nov 11 2026. No macro, syntax, notation, axiom, sorry.
-/
import Derived.Test.YtoookcmablnjfaaChecked
import GoSem.Claim
import GoSem.ClaimJoined
import GoSem.ClaimMapViews
import Derived.JoinedTies
import Derived.KernelRfl
namespace Go.Proofs.Ytoookcmablnjfaa
/- THE CELL 'sum', in the pinned program and in every row, IS THE sha256 OF THE DUMP (.gsa) THAT YtoookcmablnjfaaProg.lean LOADS. Nothing in Lean hashes anything: it is a label: what it is worth is what the hold of that sum in a sandbox is worth. -/
noncomputable def Try.pinned : Pinned := { name := "ytoookcmablnjfaa", sum := "4b35202e0c22da84af68c33d5883dd25fed9f1ae8edd10734fe7a5a193164e24", checked := Try.checked }
namespace Rows
def none {H : Type} : Left H := { results := [], args := [] }

/-- 'vendmeterlaw.WordsShows': WHATEVER THE INPUT: true; the input reads as it did. -/
def wordsShowsSpec : ChangeSpec := { name := "wordsShows", fn := fun _ => fun
  | [d] => { results := [.lit (.bool true)], args := [d] }
  | _ => none }
def wordsShowsRow : OpenClaim := { program := "ytoookcmablnjfaa", sum := "4b35202e0c22da84af68c33d5883dd25fed9f1ae8edd10734fe7a5a193164e24", func := "vendmeter/vendmeterlaw.WordsShows", spec := "wordsShows", inPlace := ["internal/abi.NoEscape", "internal/bytealg.MakeNoZero"], named := ["math/bits.overflowError"], apart := false }
def WordsShowsSaid : Prop := wordsShowsRow.holds Try.pinned (OpenSpec.ofChange wordsShowsSpec)

/-- ITS FALSE NEIGHBOUR: 'it returns false'. Refute it at one input. -/
def wordsShowsWrong : ChangeSpec := { name := "wordsShows", fn := fun _ => fun
  | [d] => { results := [.lit (.bool false)], args := [d] }
  | _ => none }
def WordsShowsWrongFalsely : Prop := wordsShowsRow.holds Try.pinned (OpenSpec.ofChange wordsShowsWrong)

/-- 'vendmeterlaw.TokenNumbers': WHATEVER THE INPUT: true; the input reads as it did. -/
def tokenNumbersSpec : ChangeSpec := { name := "tokenNumbers", fn := fun _ => fun
  | [d] => { results := [.lit (.bool true)], args := [d] }
  | _ => none }
def tokenNumbersRow : OpenClaim := { program := "ytoookcmablnjfaa", sum := "4b35202e0c22da84af68c33d5883dd25fed9f1ae8edd10734fe7a5a193164e24", func := "vendmeter/vendmeterlaw.TokenNumbers", spec := "tokenNumbers", unfollowed := true, recurses := true, apart := false }
def TokenNumbersSaid : Prop := tokenNumbersRow.holds Try.pinned (OpenSpec.ofChange tokenNumbersSpec)

/-- ITS FALSE NEIGHBOUR: 'it returns false'. Refute it at one input. -/
def tokenNumbersWrong : ChangeSpec := { name := "tokenNumbers", fn := fun _ => fun
  | [d] => { results := [.lit (.bool false)], args := [d] }
  | _ => none }
def TokenNumbersWrongFalsely : Prop := tokenNumbersRow.holds Try.pinned (OpenSpec.ofChange tokenNumbersWrong)

/-- 'vendmeterlaw.TokenFormats': WHATEVER THE INPUT: true; the input reads as it did. -/
def tokenFormatsSpec : ChangeSpec := { name := "tokenFormats", fn := fun _ => fun
  | [d] => { results := [.lit (.bool true)], args := [d] }
  | _ => none }
def tokenFormatsRow : OpenClaim := { program := "ytoookcmablnjfaa", sum := "4b35202e0c22da84af68c33d5883dd25fed9f1ae8edd10734fe7a5a193164e24", func := "vendmeter/vendmeterlaw.TokenFormats", spec := "tokenFormats", inPlace := ["internal/abi.NoEscape", "internal/bytealg.MakeNoZero"], unfollowed := true, recurses := true, named := ["math/bits.overflowError"], apart := false }
def TokenFormatsSaid : Prop := tokenFormatsRow.holds Try.pinned (OpenSpec.ofChange tokenFormatsSpec)

/-- ITS FALSE NEIGHBOUR: 'it returns false'. Refute it at one input. -/
def tokenFormatsWrong : ChangeSpec := { name := "tokenFormats", fn := fun _ => fun
  | [d] => { results := [.lit (.bool false)], args := [d] }
  | _ => none }
def TokenFormatsWrongFalsely : Prop := tokenFormatsRow.holds Try.pinned (OpenSpec.ofChange tokenFormatsWrong)

/-- 'vendmeterlaw.CentsReads': WHATEVER THE INPUT: true; the input reads as it did. -/
def centsReadsSpec : ChangeSpec := { name := "centsReads", fn := fun _ => fun
  | [d] => { results := [.lit (.bool true)], args := [d] }
  | _ => none }
def centsReadsRow : OpenClaim := { program := "ytoookcmablnjfaa", sum := "4b35202e0c22da84af68c33d5883dd25fed9f1ae8edd10734fe7a5a193164e24", func := "vendmeter/vendmeterlaw.CentsReads", spec := "centsReads", inPlace := ["internal/bytealg.IndexByteString", "internal/bytealg.IndexString"], named := ["internal/bytealg.MaxLen"], apart := false }
def CentsReadsSaid : Prop := centsReadsRow.holds Try.pinned (OpenSpec.ofChange centsReadsSpec)

/-- ITS FALSE NEIGHBOUR: 'it returns false'. Refute it at one input. -/
def centsReadsWrong : ChangeSpec := { name := "centsReads", fn := fun _ => fun
  | [d] => { results := [.lit (.bool false)], args := [d] }
  | _ => none }
def CentsReadsWrongFalsely : Prop := centsReadsRow.holds Try.pinned (OpenSpec.ofChange centsReadsWrong)

/-- 'vendmeterlaw.WorldBegins': WHATEVER THE INPUT: true; the input reads as it did. -/
def worldBeginsSpec : ChangeSpec := { name := "worldBegins", fn := fun _ => fun
  | [d1, d2, d3] => { results := [.lit (.bool true)], args := [d1, d2, d3] }
  | _ => none }
def worldBeginsRow : OpenClaim := { program := "ytoookcmablnjfaa", sum := "4b35202e0c22da84af68c33d5883dd25fed9f1ae8edd10734fe7a5a193164e24", func := "vendmeter/vendmeterlaw.WorldBegins", spec := "worldBegins", inPlace := ["internal/reflectlite.ValueOf", "(internal/reflectlite.Value).Len"], unfollowed := true, recurses := true, apart := false }
def WorldBeginsSaid : Prop := worldBeginsRow.holds Try.pinned (OpenSpec.ofChange worldBeginsSpec)

/-- ITS FALSE NEIGHBOUR: 'it returns false'. Refute it at one input. -/
def worldBeginsWrong : ChangeSpec := { name := "worldBegins", fn := fun _ => fun
  | [d1, d2, d3] => { results := [.lit (.bool false)], args := [d1, d2, d3] }
  | _ => none }
def WorldBeginsWrongFalsely : Prop := worldBeginsRow.holds Try.pinned (OpenSpec.ofChange worldBeginsWrong)

/- THE SECOND FORM. 'bulk': how many values and letters a reading holds, each counted each time it is reached (what is shared counts as often as it is met; a slice's spare places count too). A statement '..UptoSaid' is the law's where the arguments, and the package variables that the reading takes, are together of bulk at most 1048576: NARROWER than '..Said'. Prove '..Said' where nothing that the law and all that it calls make is longer than what came in: it says more and counts as full. Else prove '..UptoSaid'. A law counts once. -/
mutual
def uptoBulk {H : Type} : DataW H → Nat
  | .lit (.string bytes) => bytes.length + 1
  | .lit _ => 1
  | .nil => 1
  | .ptr d => uptoBulk d + 1
  | .slice elems spare => uptoBulkAll elems + uptoBulkAll spare + 1
  | .agg parts => uptoBulkAll parts + 1
  | .iface _ d => uptoBulk d + 1
  | .map entries => uptoBulkEntries entries + 1
  | .held _ => 1
def uptoBulkAll {H : Type} : List (DataW H) → Nat
  | [] => 0
  | d :: r => uptoBulk d + uptoBulkAll r
def uptoBulkEntries {H : Type} : List (Lit × DataW H) → Nat
  | [] => 0
  | x :: r => uptoBulkEntry x + uptoBulkEntries r
def uptoBulkEntry {H : Type} : Lit × DataW H → Nat
  | (.string bytes, d) => bytes.length + uptoBulk d + 1
  | (_, d) => uptoBulk d + 1
 end
def uptoSmall : (H : Type) → List (DataW H) → Bool := fun _ ds => decide (uptoBulkAll ds ≤ 1048576)
def OpenSpec.upto (s : _root_.Go.ChangeSpec) : _root_.Go.OpenSpec := { _root_.Go.OpenSpec.ofChange s with cond := some uptoSmall }

/-- 'vendmeterlaw.WordsShows', WHERE WHAT IT READS IS OF BULK AT MOST 1048576: true; the input reads as it did. -/
def wordsShowsUptoRow : OpenClaim := { program := "ytoookcmablnjfaa", sum := "4b35202e0c22da84af68c33d5883dd25fed9f1ae8edd10734fe7a5a193164e24", func := "vendmeter/vendmeterlaw.WordsShows", spec := "wordsShows", inPlace := ["internal/abi.NoEscape", "internal/bytealg.MakeNoZero"], named := ["math/bits.overflowError"], apart := false, narrowed := true }
def WordsShowsUptoSaid : Prop := wordsShowsUptoRow.holds Try.pinned (OpenSpec.upto wordsShowsSpec)

/-- 'vendmeterlaw.TokenNumbers', WHERE WHAT IT READS IS OF BULK AT MOST 1048576: true; the input reads as it did. -/
def tokenNumbersUptoRow : OpenClaim := { program := "ytoookcmablnjfaa", sum := "4b35202e0c22da84af68c33d5883dd25fed9f1ae8edd10734fe7a5a193164e24", func := "vendmeter/vendmeterlaw.TokenNumbers", spec := "tokenNumbers", unfollowed := true, recurses := true, apart := false, narrowed := true }
def TokenNumbersUptoSaid : Prop := tokenNumbersUptoRow.holds Try.pinned (OpenSpec.upto tokenNumbersSpec)

/-- 'vendmeterlaw.TokenFormats', WHERE WHAT IT READS IS OF BULK AT MOST 1048576: true; the input reads as it did. -/
def tokenFormatsUptoRow : OpenClaim := { program := "ytoookcmablnjfaa", sum := "4b35202e0c22da84af68c33d5883dd25fed9f1ae8edd10734fe7a5a193164e24", func := "vendmeter/vendmeterlaw.TokenFormats", spec := "tokenFormats", inPlace := ["internal/abi.NoEscape", "internal/bytealg.MakeNoZero"], unfollowed := true, recurses := true, named := ["math/bits.overflowError"], apart := false, narrowed := true }
def TokenFormatsUptoSaid : Prop := tokenFormatsUptoRow.holds Try.pinned (OpenSpec.upto tokenFormatsSpec)

/-- 'vendmeterlaw.CentsReads', WHERE WHAT IT READS IS OF BULK AT MOST 1048576: true; the input reads as it did. -/
def centsReadsUptoRow : OpenClaim := { program := "ytoookcmablnjfaa", sum := "4b35202e0c22da84af68c33d5883dd25fed9f1ae8edd10734fe7a5a193164e24", func := "vendmeter/vendmeterlaw.CentsReads", spec := "centsReads", inPlace := ["internal/bytealg.IndexByteString", "internal/bytealg.IndexString"], named := ["internal/bytealg.MaxLen"], apart := false, narrowed := true }
def CentsReadsUptoSaid : Prop := centsReadsUptoRow.holds Try.pinned (OpenSpec.upto centsReadsSpec)

/-- 'vendmeterlaw.WorldBegins', WHERE WHAT IT READS IS OF BULK AT MOST 1048576: true; the input reads as it did. -/
def worldBeginsUptoRow : OpenClaim := { program := "ytoookcmablnjfaa", sum := "4b35202e0c22da84af68c33d5883dd25fed9f1ae8edd10734fe7a5a193164e24", func := "vendmeter/vendmeterlaw.WorldBegins", spec := "worldBegins", inPlace := ["internal/reflectlite.ValueOf", "(internal/reflectlite.Value).Len"], unfollowed := true, recurses := true, apart := false, narrowed := true }
def WorldBeginsUptoSaid : Prop := worldBeginsUptoRow.holds Try.pinned (OpenSpec.upto worldBeginsSpec)

end Rows
end Go.Proofs.Ytoookcmablnjfaa
