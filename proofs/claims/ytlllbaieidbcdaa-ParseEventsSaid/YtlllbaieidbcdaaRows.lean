/-
  No cell of these rows narrows 'for every input' (looked for: loops, veiled, ifaces, maps, wideKeys, modest, calm, conditions, laid).
  DERIVED. THE GIVEN ROWS OF THIS SEAT. 3 by the template 'for every input the law returns true; each argument reads behind the call as it read before'; 0 by the template 'total and deterministic' (their statements: YtlllbaieidbcdaaTotals.lean).
  GIVEN WITH THE SEED: the statements are not yours to turn. If you find one false, say at which input.
  Laid BY PROGRAM, IN A SANDBOX (cutbox-rows.mjs): the forced cells as the released guide's own fill.sh prints them over the translation fe4780e5b8af1765… (all of the seat's roots in one cut). By AI agents, Wed Nov 11 2026. No macro, syntax, notation, axiom, sorry.
-/
import Derived.Test.YtlllbaieidbcdaaChecked
import GoSem.Claim
import GoSem.ClaimJoined
import GoSem.ClaimMapViews
import Derived.JoinedTies
import Derived.KernelRfl
namespace Go.Proofs.Ytlllbaieidbcdaa
/- THE CELL 'sum', in the pinned program and in every row, IS THE sha256 OF THE DUMP (.gsa) THAT YtlllbaieidbcdaaProg.lean LOADS. Nothing in Lean hashes anything: it is a label: what it is worth is what the hold of that sum in a sandbox is worth. -/
noncomputable def Try.pinned : Pinned := { name := "ytlllbaieidbcdaa", sum := "fe4780e5b8af1765c00a016c0d6d942b88f2768bcd2e73318013c01edda328e2", checked := Try.checked }
namespace Rows
def none {H : Type} : Left H := { results := [], args := [] }

/-- 'prolepsislaw08.ParseEvents': WHATEVER THE INPUT: true; the input reads as it did. -/
def parseEventsSpec : ChangeSpec := { name := "parseEvents", fn := fun _ => fun
  | [d] => { results := [.lit (.bool true)], args := [d] }
  | _ => none }
def parseEventsRow : OpenClaim := { program := "ytlllbaieidbcdaa", sum := "fe4780e5b8af1765c00a016c0d6d942b88f2768bcd2e73318013c01edda328e2", func := "prolepsis/prolepsislaw08.ParseEvents", spec := "parseEvents", unfollowed := true, recurses := true, apart := false }
def ParseEventsSaid : Prop := parseEventsRow.holds Try.pinned (OpenSpec.ofChange parseEventsSpec)

/-- ITS FALSE NEIGHBOUR: 'it returns false'. Refute it at one input. -/
def parseEventsWrong : ChangeSpec := { name := "parseEvents", fn := fun _ => fun
  | [d] => { results := [.lit (.bool false)], args := [d] }
  | _ => none }
def ParseEventsWrongFalsely : Prop := parseEventsRow.holds Try.pinned (OpenSpec.ofChange parseEventsWrong)

/-- 'prolepsislaw08.ParseNumbers': WHATEVER THE INPUT: true; the input reads as it did. -/
def parseNumbersSpec : ChangeSpec := { name := "parseNumbers", fn := fun _ => fun
  | [d1, d2, d3, d4, d5] => { results := [.lit (.bool true)], args := [d1, d2, d3, d4, d5] }
  | _ => none }
def parseNumbersRow : OpenClaim := { program := "ytlllbaieidbcdaa", sum := "fe4780e5b8af1765c00a016c0d6d942b88f2768bcd2e73318013c01edda328e2", func := "prolepsis/prolepsislaw08.ParseNumbers", spec := "parseNumbers", unfollowed := true, recurses := true, apart := false }
def ParseNumbersSaid : Prop := parseNumbersRow.holds Try.pinned (OpenSpec.ofChange parseNumbersSpec)

/-- ITS FALSE NEIGHBOUR: 'it returns false'. Refute it at one input. -/
def parseNumbersWrong : ChangeSpec := { name := "parseNumbers", fn := fun _ => fun
  | [d1, d2, d3, d4, d5] => { results := [.lit (.bool false)], args := [d1, d2, d3, d4, d5] }
  | _ => none }
def ParseNumbersWrongFalsely : Prop := parseNumbersRow.holds Try.pinned (OpenSpec.ofChange parseNumbersWrong)

/-- 'prolepsislaw08.ParseCuts': WHATEVER THE INPUT: true; the input reads as it did. -/
def parseCutsSpec : ChangeSpec := { name := "parseCuts", fn := fun _ => fun
  | [d1, d2] => { results := [.lit (.bool true)], args := [d1, d2] }
  | _ => none }
def parseCutsRow : OpenClaim := { program := "ytlllbaieidbcdaa", sum := "fe4780e5b8af1765c00a016c0d6d942b88f2768bcd2e73318013c01edda328e2", func := "prolepsis/prolepsislaw08.ParseCuts", spec := "parseCuts", unfollowed := true, recurses := true, apart := false }
def ParseCutsSaid : Prop := parseCutsRow.holds Try.pinned (OpenSpec.ofChange parseCutsSpec)

/-- ITS FALSE NEIGHBOUR: 'it returns false'. Refute it at one input. -/
def parseCutsWrong : ChangeSpec := { name := "parseCuts", fn := fun _ => fun
  | [d1, d2] => { results := [.lit (.bool false)], args := [d1, d2] }
  | _ => none }
def ParseCutsWrongFalsely : Prop := parseCutsRow.holds Try.pinned (OpenSpec.ofChange parseCutsWrong)

/- THE SECOND FORM. 'bulk': how many values and letters a reading holds, each counted each time it is reached (what is shared counts as often as it is met; a slice's spare places count too). A statement '..UptoSaid' is the law's where the arguments, and the package variables that the reading takes, are together of bulk at most 1048576: NARROWER than '..Said'. Prove '..Said' where nothing that the law and all that it calls make is longer than what came in: it says more and counts as full. Else prove '..UptoSaid'. A law counts once. -/
mutual
def uptoBulk {H : Type} : DataW H → Nat
  | .lit (.string bytes) => bytes.length + 1
  | .lit _ => 1
  | .nil => 1
  | .ptr d => uptoBulk d + 1
  | .slice elems spare => uptoBulkAll elems + uptoBulkAll spare + 1
  | .agg parts => uptoBulkAll parts + 1
  | .iface _ d => uptoBulk d + 1
  | .map entries => uptoBulkEntries entries + 1
  | .held _ => 1
def uptoBulkAll {H : Type} : List (DataW H) → Nat
  | [] => 0
  | d :: r => uptoBulk d + uptoBulkAll r
def uptoBulkEntries {H : Type} : List (Lit × DataW H) → Nat
  | [] => 0
  | x :: r => uptoBulkEntry x + uptoBulkEntries r
def uptoBulkEntry {H : Type} : Lit × DataW H → Nat
  | (.string bytes, d) => bytes.length + uptoBulk d + 1
  | (_, d) => uptoBulk d + 1
 end
def uptoSmall : (H : Type) → List (DataW H) → Bool := fun _ ds => decide (uptoBulkAll ds ≤ 1048576)
def OpenSpec.upto (s : _root_.Go.ChangeSpec) : _root_.Go.OpenSpec := { _root_.Go.OpenSpec.ofChange s with cond := some uptoSmall }

/-- 'prolepsislaw08.ParseEvents', WHERE WHAT IT READS IS OF BULK AT MOST 1048576: true; the input reads as it did. -/
def parseEventsUptoRow : OpenClaim := { program := "ytlllbaieidbcdaa", sum := "fe4780e5b8af1765c00a016c0d6d942b88f2768bcd2e73318013c01edda328e2", func := "prolepsis/prolepsislaw08.ParseEvents", spec := "parseEvents", unfollowed := true, recurses := true, apart := false, narrowed := true }
def ParseEventsUptoSaid : Prop := parseEventsUptoRow.holds Try.pinned (OpenSpec.upto parseEventsSpec)

/-- 'prolepsislaw08.ParseNumbers', WHERE WHAT IT READS IS OF BULK AT MOST 1048576: true; the input reads as it did. -/
def parseNumbersUptoRow : OpenClaim := { program := "ytlllbaieidbcdaa", sum := "fe4780e5b8af1765c00a016c0d6d942b88f2768bcd2e73318013c01edda328e2", func := "prolepsis/prolepsislaw08.ParseNumbers", spec := "parseNumbers", unfollowed := true, recurses := true, apart := false, narrowed := true }
def ParseNumbersUptoSaid : Prop := parseNumbersUptoRow.holds Try.pinned (OpenSpec.upto parseNumbersSpec)

/-- 'prolepsislaw08.ParseCuts', WHERE WHAT IT READS IS OF BULK AT MOST 1048576: true; the input reads as it did. -/
def parseCutsUptoRow : OpenClaim := { program := "ytlllbaieidbcdaa", sum := "fe4780e5b8af1765c00a016c0d6d942b88f2768bcd2e73318013c01edda328e2", func := "prolepsis/prolepsislaw08.ParseCuts", spec := "parseCuts", unfollowed := true, recurses := true, apart := false, narrowed := true }
def ParseCutsUptoSaid : Prop := parseCutsUptoRow.holds Try.pinned (OpenSpec.upto parseCutsSpec)

end Rows
end Go.Proofs.Ytlllbaieidbcdaa
