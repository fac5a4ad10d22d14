/-
  No cell of these rows narrows 'for every input' (looked for: loops, veiled, ifaces, maps, wideKeys, modest, calm, conditions, laid).
  DERIVED. THE GIVEN ROWS OF THIS SEAT. 11 by the template 'for every input the law returns true; each argument reads behind the call as it read before'; 0 by the template 'total and deterministic' (their statements: YtglcopljhanhmaaTotals.lean).
  GIVEN WITH THE SEED: the statements are not yours to turn. If you find one false, say at which input.
  Laid BY PROGRAM, IN A SANDBOX (cutbox-rows.mjs): the forced cells as the released guide's own fill.sh prints them over the translation 0654f4f0ca9de544… (all of the seat's roots in one cut). By AI agents, Wed Nov 11 2026. No macro, syntax, notation, axiom, sorry.
-/
import Derived.Test.YtglcopljhanhmaaChecked
import GoSem.Claim
import GoSem.ClaimJoined
import GoSem.ClaimMapViews
import Derived.JoinedTies
import Derived.KernelRfl
namespace Go.Proofs.Ytglcopljhanhmaa
/- THE CELL 'sum', in the pinned program and in every row, IS THE sha256 OF THE DUMP (.gsa) THAT YtglcopljhanhmaaProg.lean LOADS. Nothing in Lean hashes anything: it is a label: what it is worth is what the hold of that sum in a sandbox is worth. -/
noncomputable def Try.pinned : Pinned := { name := "ytglcopljhanhmaa", sum := "0654f4f0ca9de5440dc7c3049784048a655904683df1b1af3ffb4a6dfe05d609", checked := Try.checked }
namespace Rows
def none {H : Type} : Left H := { results := [], args := [] }

/-- 'prolepsislaw02.UtfRunes': WHATEVER THE INPUT: true; the input reads as it did. -/
def utfRunesSpec : ChangeSpec := { name := "utfRunes", fn := fun _ => fun
  | [d] => { results := [.lit (.bool true)], args := [d] }
  | _ => none }
def utfRunesRow : OpenClaim := { program := "ytglcopljhanhmaa", sum := "0654f4f0ca9de5440dc7c3049784048a655904683df1b1af3ffb4a6dfe05d609", func := "prolepsis/prolepsislaw02.UtfRunes", spec := "utfRunes", apart := false }
def UtfRunesSaid : Prop := utfRunesRow.holds Try.pinned (OpenSpec.ofChange utfRunesSpec)

/-- ITS FALSE NEIGHBOUR: 'it returns false'. Refute it at one input. -/
def utfRunesWrong : ChangeSpec := { name := "utfRunes", fn := fun _ => fun
  | [d] => { results := [.lit (.bool false)], args := [d] }
  | _ => none }
def UtfRunesWrongFalsely : Prop := utfRunesRow.holds Try.pinned (OpenSpec.ofChange utfRunesWrong)

/-- 'prolepsislaw02.UtfStreams': WHATEVER THE INPUT: true; the input reads as it did. -/
def utfStreamsSpec : ChangeSpec := { name := "utfStreams", fn := fun _ => fun
  | [d1, d2] => { results := [.lit (.bool true)], args := [d1, d2] }
  | _ => none }
def utfStreamsRow : OpenClaim := { program := "ytglcopljhanhmaa", sum := "0654f4f0ca9de5440dc7c3049784048a655904683df1b1af3ffb4a6dfe05d609", func := "prolepsis/prolepsislaw02.UtfStreams", spec := "utfStreams", apart := false }
def UtfStreamsSaid : Prop := utfStreamsRow.holds Try.pinned (OpenSpec.ofChange utfStreamsSpec)

/-- ITS FALSE NEIGHBOUR: 'it returns false'. Refute it at one input. -/
def utfStreamsWrong : ChangeSpec := { name := "utfStreams", fn := fun _ => fun
  | [d1, d2] => { results := [.lit (.bool false)], args := [d1, d2] }
  | _ => none }
def UtfStreamsWrongFalsely : Prop := utfStreamsRow.holds Try.pinned (OpenSpec.ofChange utfStreamsWrong)

/-- 'prolepsislaw02.UtfBytes': WHATEVER THE INPUT: true; the input reads as it did. -/
def utfBytesSpec : ChangeSpec := { name := "utfBytes", fn := fun _ => fun
  | [d] => { results := [.lit (.bool true)], args := [d] }
  | _ => none }
def utfBytesRow : OpenClaim := { program := "ytglcopljhanhmaa", sum := "0654f4f0ca9de5440dc7c3049784048a655904683df1b1af3ffb4a6dfe05d609", func := "prolepsis/prolepsislaw02.UtfBytes", spec := "utfBytes", apart := false }
def UtfBytesSaid : Prop := utfBytesRow.holds Try.pinned (OpenSpec.ofChange utfBytesSpec)

/-- ITS FALSE NEIGHBOUR: 'it returns false'. Refute it at one input. -/
def utfBytesWrong : ChangeSpec := { name := "utfBytes", fn := fun _ => fun
  | [d] => { results := [.lit (.bool false)], args := [d] }
  | _ => none }
def UtfBytesWrongFalsely : Prop := utfBytesRow.holds Try.pinned (OpenSpec.ofChange utfBytesWrong)

/-- 'prolepsislaw02.UtfJoins': WHATEVER THE INPUT: true; the input reads as it did. -/
def utfJoinsSpec : ChangeSpec := { name := "utfJoins", fn := fun _ => fun
  | [d1, d2] => { results := [.lit (.bool true)], args := [d1, d2] }
  | _ => none }
def utfJoinsRow : OpenClaim := { program := "ytglcopljhanhmaa", sum := "0654f4f0ca9de5440dc7c3049784048a655904683df1b1af3ffb4a6dfe05d609", func := "prolepsis/prolepsislaw02.UtfJoins", spec := "utfJoins", apart := false }
def UtfJoinsSaid : Prop := utfJoinsRow.holds Try.pinned (OpenSpec.ofChange utfJoinsSpec)

/-- ITS FALSE NEIGHBOUR: 'it returns false'. Refute it at one input. -/
def utfJoinsWrong : ChangeSpec := { name := "utfJoins", fn := fun _ => fun
  | [d1, d2] => { results := [.lit (.bool false)], args := [d1, d2] }
  | _ => none }
def UtfJoinsWrongFalsely : Prop := utfJoinsRow.holds Try.pinned (OpenSpec.ofChange utfJoinsWrong)

/-- 'prolepsislaw03.WidthClusters': WHATEVER THE INPUT: true; the input reads as it did. -/
def widthClustersSpec : ChangeSpec := { name := "widthClusters", fn := fun _ => fun
  | [d] => { results := [.lit (.bool true)], args := [d] }
  | _ => none }
def widthClustersRow : OpenClaim := { program := "ytglcopljhanhmaa", sum := "0654f4f0ca9de5440dc7c3049784048a655904683df1b1af3ffb4a6dfe05d609", func := "prolepsis/prolepsislaw03.WidthClusters", spec := "widthClusters", unfollowed := true, recurses := true, apart := false }
def WidthClustersSaid : Prop := widthClustersRow.holds Try.pinned (OpenSpec.ofChange widthClustersSpec)

/-- ITS FALSE NEIGHBOUR: 'it returns false'. Refute it at one input. -/
def widthClustersWrong : ChangeSpec := { name := "widthClusters", fn := fun _ => fun
  | [d] => { results := [.lit (.bool false)], args := [d] }
  | _ => none }
def WidthClustersWrongFalsely : Prop := widthClustersRow.holds Try.pinned (OpenSpec.ofChange widthClustersWrong)

/-- 'prolepsislaw03.WidthOf': WHATEVER THE INPUT: true; the input reads as it did. -/
def widthOfSpec : ChangeSpec := { name := "widthOf", fn := fun _ => fun
  | [d] => { results := [.lit (.bool true)], args := [d] }
  | _ => none }
def widthOfRow : OpenClaim := { program := "ytglcopljhanhmaa", sum := "0654f4f0ca9de5440dc7c3049784048a655904683df1b1af3ffb4a6dfe05d609", func := "prolepsis/prolepsislaw03.WidthOf", spec := "widthOf", unfollowed := true, recurses := true, apart := false }
def WidthOfSaid : Prop := widthOfRow.holds Try.pinned (OpenSpec.ofChange widthOfSpec)

/-- ITS FALSE NEIGHBOUR: 'it returns false'. Refute it at one input. -/
def widthOfWrong : ChangeSpec := { name := "widthOf", fn := fun _ => fun
  | [d] => { results := [.lit (.bool false)], args := [d] }
  | _ => none }
def WidthOfWrongFalsely : Prop := widthOfRow.holds Try.pinned (OpenSpec.ofChange widthOfWrong)

/-- 'prolepsislaw03.WidthFits': WHATEVER THE INPUT: true; the input reads as it did. -/
def widthFitsSpec : ChangeSpec := { name := "widthFits", fn := fun _ => fun
  | [d1, d2, d3] => { results := [.lit (.bool true)], args := [d1, d2, d3] }
  | _ => none }
def widthFitsRow : OpenClaim := { program := "ytglcopljhanhmaa", sum := "0654f4f0ca9de5440dc7c3049784048a655904683df1b1af3ffb4a6dfe05d609", func := "prolepsis/prolepsislaw03.WidthFits", spec := "widthFits", unfollowed := true, recurses := true, apart := false }
def WidthFitsSaid : Prop := widthFitsRow.holds Try.pinned (OpenSpec.ofChange widthFitsSpec)

/-- ITS FALSE NEIGHBOUR: 'it returns false'. Refute it at one input. -/
def widthFitsWrong : ChangeSpec := { name := "widthFits", fn := fun _ => fun
  | [d1, d2, d3] => { results := [.lit (.bool false)], args := [d1, d2, d3] }
  | _ => none }
def WidthFitsWrongFalsely : Prop := widthFitsRow.holds Try.pinned (OpenSpec.ofChange widthFitsWrong)

/-- 'prolepsislaw03.WidthJoins': WHATEVER THE INPUT: true; the input reads as it did. -/
def widthJoinsSpec : ChangeSpec := { name := "widthJoins", fn := fun _ => fun
  | [d1, d2, d3] => { results := [.lit (.bool true)], args := [d1, d2, d3] }
  | _ => none }
def widthJoinsRow : OpenClaim := { program := "ytglcopljhanhmaa", sum := "0654f4f0ca9de5440dc7c3049784048a655904683df1b1af3ffb4a6dfe05d609", func := "prolepsis/prolepsislaw03.WidthJoins", spec := "widthJoins", unfollowed := true, recurses := true, apart := false }
def WidthJoinsSaid : Prop := widthJoinsRow.holds Try.pinned (OpenSpec.ofChange widthJoinsSpec)

/-- ITS FALSE NEIGHBOUR: 'it returns false'. Refute it at one input. -/
def widthJoinsWrong : ChangeSpec := { name := "widthJoins", fn := fun _ => fun
  | [d1, d2, d3] => { results := [.lit (.bool false)], args := [d1, d2, d3] }
  | _ => none }
def WidthJoinsWrongFalsely : Prop := widthJoinsRow.holds Try.pinned (OpenSpec.ofChange widthJoinsWrong)

/-- 'prolepsislaw22.KeySplits': WHATEVER THE INPUT: true; the input reads as it did. -/
def keySplitsSpec : ChangeSpec := { name := "keySplits", fn := fun _ => fun
  | [d] => { results := [.lit (.bool true)], args := [d] }
  | _ => none }
def keySplitsRow : OpenClaim := { program := "ytglcopljhanhmaa", sum := "0654f4f0ca9de5440dc7c3049784048a655904683df1b1af3ffb4a6dfe05d609", func := "prolepsis/prolepsislaw22.KeySplits", spec := "keySplits", unfollowed := true, recurses := true, apart := false }
def KeySplitsSaid : Prop := keySplitsRow.holds Try.pinned (OpenSpec.ofChange keySplitsSpec)

/-- ITS FALSE NEIGHBOUR: 'it returns false'. Refute it at one input. -/
def keySplitsWrong : ChangeSpec := { name := "keySplits", fn := fun _ => fun
  | [d] => { results := [.lit (.bool false)], args := [d] }
  | _ => none }
def KeySplitsWrongFalsely : Prop := keySplitsRow.holds Try.pinned (OpenSpec.ofChange keySplitsWrong)

/-- 'prolepsislaw22.KeyOf': WHATEVER THE INPUT: true; the input reads as it did. -/
def keyOfSpec : ChangeSpec := { name := "keyOf", fn := fun _ => fun
  | [d] => { results := [.lit (.bool true)], args := [d] }
  | _ => none }
def keyOfRow : OpenClaim := { program := "ytglcopljhanhmaa", sum := "0654f4f0ca9de5440dc7c3049784048a655904683df1b1af3ffb4a6dfe05d609", func := "prolepsis/prolepsislaw22.KeyOf", spec := "keyOf", unfollowed := true, recurses := true, apart := false }
def KeyOfSaid : Prop := keyOfRow.holds Try.pinned (OpenSpec.ofChange keyOfSpec)

/-- ITS FALSE NEIGHBOUR: 'it returns false'. Refute it at one input. -/
def keyOfWrong : ChangeSpec := { name := "keyOf", fn := fun _ => fun
  | [d] => { results := [.lit (.bool false)], args := [d] }
  | _ => none }
def KeyOfWrongFalsely : Prop := keyOfRow.holds Try.pinned (OpenSpec.ofChange keyOfWrong)

/-- 'prolepsislaw22.KeyBytes': WHATEVER THE INPUT: true; the input reads as it did. -/
def keyBytesSpec : ChangeSpec := { name := "keyBytes", fn := fun _ => fun
  | [d] => { results := [.lit (.bool true)], args := [d] }
  | _ => none }
def keyBytesRow : OpenClaim := { program := "ytglcopljhanhmaa", sum := "0654f4f0ca9de5440dc7c3049784048a655904683df1b1af3ffb4a6dfe05d609", func := "prolepsis/prolepsislaw22.KeyBytes", spec := "keyBytes", unfollowed := true, recurses := true, apart := false }
def KeyBytesSaid : Prop := keyBytesRow.holds Try.pinned (OpenSpec.ofChange keyBytesSpec)

/-- ITS FALSE NEIGHBOUR: 'it returns false'. Refute it at one input. -/
def keyBytesWrong : ChangeSpec := { name := "keyBytes", fn := fun _ => fun
  | [d] => { results := [.lit (.bool false)], args := [d] }
  | _ => none }
def KeyBytesWrongFalsely : Prop := keyBytesRow.holds Try.pinned (OpenSpec.ofChange keyBytesWrong)

/- THE SECOND FORM. 'bulk': how many values and letters a reading holds, each counted each time it is reached (what is shared counts as often as it is met; a slice's spare places count too). A statement '..UptoSaid' is the law's where the arguments, and the package variables that the reading takes, are together of bulk at most 1048576: NARROWER than '..Said'. Prove '..Said' where nothing that the law and all that it calls make is longer than what came in: it says more and counts as full. Else prove '..UptoSaid'. A law counts once. -/
mutual
def uptoBulk {H : Type} : DataW H → Nat
  | .lit (.string bytes) => bytes.length + 1
  | .lit _ => 1
  | .nil => 1
  | .ptr d => uptoBulk d + 1
  | .slice elems spare => uptoBulkAll elems + uptoBulkAll spare + 1
  | .agg parts => uptoBulkAll parts + 1
  | .iface _ d => uptoBulk d + 1
  | .map entries => uptoBulkEntries entries + 1
  | .held _ => 1
def uptoBulkAll {H : Type} : List (DataW H) → Nat
  | [] => 0
  | d :: r => uptoBulk d + uptoBulkAll r
def uptoBulkEntries {H : Type} : List (Lit × DataW H) → Nat
  | [] => 0
  | x :: r => uptoBulkEntry x + uptoBulkEntries r
def uptoBulkEntry {H : Type} : Lit × DataW H → Nat
  | (.string bytes, d) => bytes.length + uptoBulk d + 1
  | (_, d) => uptoBulk d + 1
 end
def uptoSmall : (H : Type) → List (DataW H) → Bool := fun _ ds => decide (uptoBulkAll ds ≤ 1048576)
def OpenSpec.upto (s : _root_.Go.ChangeSpec) : _root_.Go.OpenSpec := { _root_.Go.OpenSpec.ofChange s with cond := some uptoSmall }

/-- 'prolepsislaw02.UtfRunes', WHERE WHAT IT READS IS OF BULK AT MOST 1048576: true; the input reads as it did. -/
def utfRunesUptoRow : OpenClaim := { program := "ytglcopljhanhmaa", sum := "0654f4f0ca9de5440dc7c3049784048a655904683df1b1af3ffb4a6dfe05d609", func := "prolepsis/prolepsislaw02.UtfRunes", spec := "utfRunes", apart := false, narrowed := true }
def UtfRunesUptoSaid : Prop := utfRunesUptoRow.holds Try.pinned (OpenSpec.upto utfRunesSpec)

/-- 'prolepsislaw02.UtfStreams', WHERE WHAT IT READS IS OF BULK AT MOST 1048576: true; the input reads as it did. -/
def utfStreamsUptoRow : OpenClaim := { program := "ytglcopljhanhmaa", sum := "0654f4f0ca9de5440dc7c3049784048a655904683df1b1af3ffb4a6dfe05d609", func := "prolepsis/prolepsislaw02.UtfStreams", spec := "utfStreams", apart := false, narrowed := true }
def UtfStreamsUptoSaid : Prop := utfStreamsUptoRow.holds Try.pinned (OpenSpec.upto utfStreamsSpec)

/-- 'prolepsislaw02.UtfBytes', WHERE WHAT IT READS IS OF BULK AT MOST 1048576: true; the input reads as it did. -/
def utfBytesUptoRow : OpenClaim := { program := "ytglcopljhanhmaa", sum := "0654f4f0ca9de5440dc7c3049784048a655904683df1b1af3ffb4a6dfe05d609", func := "prolepsis/prolepsislaw02.UtfBytes", spec := "utfBytes", apart := false, narrowed := true }
def UtfBytesUptoSaid : Prop := utfBytesUptoRow.holds Try.pinned (OpenSpec.upto utfBytesSpec)

/-- 'prolepsislaw02.UtfJoins', WHERE WHAT IT READS IS OF BULK AT MOST 1048576: true; the input reads as it did. -/
def utfJoinsUptoRow : OpenClaim := { program := "ytglcopljhanhmaa", sum := "0654f4f0ca9de5440dc7c3049784048a655904683df1b1af3ffb4a6dfe05d609", func := "prolepsis/prolepsislaw02.UtfJoins", spec := "utfJoins", apart := false, narrowed := true }
def UtfJoinsUptoSaid : Prop := utfJoinsUptoRow.holds Try.pinned (OpenSpec.upto utfJoinsSpec)

/-- 'prolepsislaw03.WidthClusters', WHERE WHAT IT READS IS OF BULK AT MOST 1048576: true; the input reads as it did. -/
def widthClustersUptoRow : OpenClaim := { program := "ytglcopljhanhmaa", sum := "0654f4f0ca9de5440dc7c3049784048a655904683df1b1af3ffb4a6dfe05d609", func := "prolepsis/prolepsislaw03.WidthClusters", spec := "widthClusters", unfollowed := true, recurses := true, apart := false, narrowed := true }
def WidthClustersUptoSaid : Prop := widthClustersUptoRow.holds Try.pinned (OpenSpec.upto widthClustersSpec)

/-- 'prolepsislaw03.WidthOf', WHERE WHAT IT READS IS OF BULK AT MOST 1048576: true; the input reads as it did. -/
def widthOfUptoRow : OpenClaim := { program := "ytglcopljhanhmaa", sum := "0654f4f0ca9de5440dc7c3049784048a655904683df1b1af3ffb4a6dfe05d609", func := "prolepsis/prolepsislaw03.WidthOf", spec := "widthOf", unfollowed := true, recurses := true, apart := false, narrowed := true }
def WidthOfUptoSaid : Prop := widthOfUptoRow.holds Try.pinned (OpenSpec.upto widthOfSpec)

/-- 'prolepsislaw03.WidthFits', WHERE WHAT IT READS IS OF BULK AT MOST 1048576: true; the input reads as it did. -/
def widthFitsUptoRow : OpenClaim := { program := "ytglcopljhanhmaa", sum := "0654f4f0ca9de5440dc7c3049784048a655904683df1b1af3ffb4a6dfe05d609", func := "prolepsis/prolepsislaw03.WidthFits", spec := "widthFits", unfollowed := true, recurses := true, apart := false, narrowed := true }
def WidthFitsUptoSaid : Prop := widthFitsUptoRow.holds Try.pinned (OpenSpec.upto widthFitsSpec)

/-- 'prolepsislaw03.WidthJoins', WHERE WHAT IT READS IS OF BULK AT MOST 1048576: true; the input reads as it did. -/
def widthJoinsUptoRow : OpenClaim := { program := "ytglcopljhanhmaa", sum := "0654f4f0ca9de5440dc7c3049784048a655904683df1b1af3ffb4a6dfe05d609", func := "prolepsis/prolepsislaw03.WidthJoins", spec := "widthJoins", unfollowed := true, recurses := true, apart := false, narrowed := true }
def WidthJoinsUptoSaid : Prop := widthJoinsUptoRow.holds Try.pinned (OpenSpec.upto widthJoinsSpec)

/-- 'prolepsislaw22.KeySplits', WHERE WHAT IT READS IS OF BULK AT MOST 1048576: true; the input reads as it did. -/
def keySplitsUptoRow : OpenClaim := { program := "ytglcopljhanhmaa", sum := "0654f4f0ca9de5440dc7c3049784048a655904683df1b1af3ffb4a6dfe05d609", func := "prolepsis/prolepsislaw22.KeySplits", spec := "keySplits", unfollowed := true, recurses := true, apart := false, narrowed := true }
def KeySplitsUptoSaid : Prop := keySplitsUptoRow.holds Try.pinned (OpenSpec.upto keySplitsSpec)

/-- 'prolepsislaw22.KeyOf', WHERE WHAT IT READS IS OF BULK AT MOST 1048576: true; the input reads as it did. -/
def keyOfUptoRow : OpenClaim := { program := "ytglcopljhanhmaa", sum := "0654f4f0ca9de5440dc7c3049784048a655904683df1b1af3ffb4a6dfe05d609", func := "prolepsis/prolepsislaw22.KeyOf", spec := "keyOf", unfollowed := true, recurses := true, apart := false, narrowed := true }
def KeyOfUptoSaid : Prop := keyOfUptoRow.holds Try.pinned (OpenSpec.upto keyOfSpec)

/-- 'prolepsislaw22.KeyBytes', WHERE WHAT IT READS IS OF BULK AT MOST 1048576: true; the input reads as it did. -/
def keyBytesUptoRow : OpenClaim := { program := "ytglcopljhanhmaa", sum := "0654f4f0ca9de5440dc7c3049784048a655904683df1b1af3ffb4a6dfe05d609", func := "prolepsis/prolepsislaw22.KeyBytes", spec := "keyBytes", unfollowed := true, recurses := true, apart := false, narrowed := true }
def KeyBytesUptoSaid : Prop := keyBytesUptoRow.holds Try.pinned (OpenSpec.upto keyBytesSpec)

end Rows
end Go.Proofs.Ytglcopljhanhmaa
