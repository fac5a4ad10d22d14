/-
  No cell of these rows narrows 'for every input' (looked for: loops, veiled, ifaces, maps, wideKeys, modest, calm, conditions, laid).
  DERIVED. THE GIVEN ROWS OF THIS SEAT. 10 by the template 'for every input the law returns true; each argument reads behind the call as it read before'; 0 by the template 'total and deterministic' (their statements: YtpephndecdkfhaaTotals.lean).
  GIVEN WITH THE SEED: the statements are not yours to turn. If you find one false, say at which input.
  Laid BY PROGRAM, IN A SANDBOX (cutbox-rows.mjs): the forced cells as the released guide's own fill.sh prints them over the translation d11e07698318e8d0… (all of the seat's roots in one cut). By AI agents, Wed Nov 11 2026. No macro, syntax, notation, axiom, sorry.
-/
import Derived.Test.YtpephndecdkfhaaChecked
import GoSem.Claim
import GoSem.ClaimJoined
import GoSem.ClaimMapViews
import Derived.JoinedTies
import Derived.KernelRfl
namespace Go.Proofs.Ytpephndecdkfhaa
/- THE CELL 'sum', in the pinned program and in every row, IS THE sha256 OF THE DUMP (.gsa) THAT YtpephndecdkfhaaProg.lean LOADS. Nothing in Lean hashes anything: it is a label: what it is worth is what the hold of that sum in a sandbox is worth. -/
noncomputable def Try.pinned : Pinned := { name := "ytpephndecdkfhaa", sum := "d11e07698318e8d0e4759f737c71b2d193a0ff617383f3ccb211c6a71f76f150", checked := Try.checked }
namespace Rows
def none {H : Type} : Left H := { results := [], args := [] }

/-- 'prolepsislaw01.NumSums': WHATEVER THE INPUT: true; the input reads as it did. -/
def numSumsSpec : ChangeSpec := { name := "numSums", fn := fun _ => fun
  | [d1, d2] => { results := [.lit (.bool true)], args := [d1, d2] }
  | _ => none }
def numSumsRow : OpenClaim := { program := "ytpephndecdkfhaa", sum := "d11e07698318e8d0e4759f737c71b2d193a0ff617383f3ccb211c6a71f76f150", func := "prolepsis/prolepsislaw01.NumSums", spec := "numSums", apart := false }
def NumSumsSaid : Prop := numSumsRow.holds Try.pinned (OpenSpec.ofChange numSumsSpec)

/-- ITS FALSE NEIGHBOUR: 'it returns false'. Refute it at one input. -/
def numSumsWrong : ChangeSpec := { name := "numSums", fn := fun _ => fun
  | [d1, d2] => { results := [.lit (.bool false)], args := [d1, d2] }
  | _ => none }
def NumSumsWrongFalsely : Prop := numSumsRow.holds Try.pinned (OpenSpec.ofChange numSumsWrong)

/-- 'prolepsislaw01.NumBytes': WHATEVER THE INPUT: true; the input reads as it did. -/
def numBytesSpec : ChangeSpec := { name := "numBytes", fn := fun _ => fun
  | [d] => { results := [.lit (.bool true)], args := [d] }
  | _ => none }
def numBytesRow : OpenClaim := { program := "ytpephndecdkfhaa", sum := "d11e07698318e8d0e4759f737c71b2d193a0ff617383f3ccb211c6a71f76f150", func := "prolepsis/prolepsislaw01.NumBytes", spec := "numBytes", apart := false }
def NumBytesSaid : Prop := numBytesRow.holds Try.pinned (OpenSpec.ofChange numBytesSpec)

/-- ITS FALSE NEIGHBOUR: 'it returns false'. Refute it at one input. -/
def numBytesWrong : ChangeSpec := { name := "numBytes", fn := fun _ => fun
  | [d] => { results := [.lit (.bool false)], args := [d] }
  | _ => none }
def NumBytesWrongFalsely : Prop := numBytesRow.holds Try.pinned (OpenSpec.ofChange numBytesWrong)

/-- 'prolepsislaw01.NumReads': WHATEVER THE INPUT: true; the input reads as it did. -/
def numReadsSpec : ChangeSpec := { name := "numReads", fn := fun _ => fun
  | [d] => { results := [.lit (.bool true)], args := [d] }
  | _ => none }
def numReadsRow : OpenClaim := { program := "ytpephndecdkfhaa", sum := "d11e07698318e8d0e4759f737c71b2d193a0ff617383f3ccb211c6a71f76f150", func := "prolepsis/prolepsislaw01.NumReads", spec := "numReads", apart := false }
def NumReadsSaid : Prop := numReadsRow.holds Try.pinned (OpenSpec.ofChange numReadsSpec)

/-- ITS FALSE NEIGHBOUR: 'it returns false'. Refute it at one input. -/
def numReadsWrong : ChangeSpec := { name := "numReads", fn := fun _ => fun
  | [d] => { results := [.lit (.bool false)], args := [d] }
  | _ => none }
def NumReadsWrongFalsely : Prop := numReadsRow.holds Try.pinned (OpenSpec.ofChange numReadsWrong)

/-- 'prolepsislaw01.NumJoins': WHATEVER THE INPUT: true; the input reads as it did. -/
def numJoinsSpec : ChangeSpec := { name := "numJoins", fn := fun _ => fun
  | [d1, d2, d3, d4, d5] => { results := [.lit (.bool true)], args := [d1, d2, d3, d4, d5] }
  | _ => none }
def numJoinsRow : OpenClaim := { program := "ytpephndecdkfhaa", sum := "d11e07698318e8d0e4759f737c71b2d193a0ff617383f3ccb211c6a71f76f150", func := "prolepsis/prolepsislaw01.NumJoins", spec := "numJoins", apart := false }
def NumJoinsSaid : Prop := numJoinsRow.holds Try.pinned (OpenSpec.ofChange numJoinsSpec)

/-- ITS FALSE NEIGHBOUR: 'it returns false'. Refute it at one input. -/
def numJoinsWrong : ChangeSpec := { name := "numJoins", fn := fun _ => fun
  | [d1, d2, d3, d4, d5] => { results := [.lit (.bool false)], args := [d1, d2, d3, d4, d5] }
  | _ => none }
def NumJoinsWrongFalsely : Prop := numJoinsRow.holds Try.pinned (OpenSpec.ofChange numJoinsWrong)

/-- 'prolepsislaw01.NumPlays': WHATEVER THE INPUT: true; the input reads as it did. -/
def numPlaysSpec : ChangeSpec := { name := "numPlays", fn := fun _ => fun
  | [d1, d2] => { results := [.lit (.bool true)], args := [d1, d2] }
  | _ => none }
def numPlaysRow : OpenClaim := { program := "ytpephndecdkfhaa", sum := "d11e07698318e8d0e4759f737c71b2d193a0ff617383f3ccb211c6a71f76f150", func := "prolepsis/prolepsislaw01.NumPlays", spec := "numPlays", unfollowed := true, recurses := true, apart := false }
def NumPlaysSaid : Prop := numPlaysRow.holds Try.pinned (OpenSpec.ofChange numPlaysSpec)

/-- ITS FALSE NEIGHBOUR: 'it returns false'. Refute it at one input. -/
def numPlaysWrong : ChangeSpec := { name := "numPlays", fn := fun _ => fun
  | [d1, d2] => { results := [.lit (.bool false)], args := [d1, d2] }
  | _ => none }
def NumPlaysWrongFalsely : Prop := numPlaysRow.holds Try.pinned (OpenSpec.ofChange numPlaysWrong)

/-- 'prolepsislaw01.NumNil': WHATEVER THE INPUT: true; the input reads as it did. -/
def numNilSpec : ChangeSpec := { name := "numNil", fn := fun _ => fun
  | [d] => { results := [.lit (.bool true)], args := [d] }
  | _ => none }
def numNilRow : OpenClaim := { program := "ytpephndecdkfhaa", sum := "d11e07698318e8d0e4759f737c71b2d193a0ff617383f3ccb211c6a71f76f150", func := "prolepsis/prolepsislaw01.NumNil", spec := "numNil", unfollowed := true, recurses := true, apart := false }
def NumNilSaid : Prop := numNilRow.holds Try.pinned (OpenSpec.ofChange numNilSpec)

/-- ITS FALSE NEIGHBOUR: 'it returns false'. Refute it at one input. -/
def numNilWrong : ChangeSpec := { name := "numNil", fn := fun _ => fun
  | [d] => { results := [.lit (.bool false)], args := [d] }
  | _ => none }
def NumNilWrongFalsely : Prop := numNilRow.holds Try.pinned (OpenSpec.ofChange numNilWrong)

/-- 'prolepsislaw14.KeygramMany': WHATEVER THE INPUT: true; the input reads as it did. -/
def keygramManySpec : ChangeSpec := { name := "keygramMany", fn := fun _ => fun
  | [d1, d2] => { results := [.lit (.bool true)], args := [d1, d2] }
  | _ => none }
def keygramManyRow : OpenClaim := { program := "ytpephndecdkfhaa", sum := "d11e07698318e8d0e4759f737c71b2d193a0ff617383f3ccb211c6a71f76f150", func := "prolepsis/prolepsislaw14.KeygramMany", spec := "keygramMany", unfollowed := true, recurses := true, apart := false }
def KeygramManySaid : Prop := keygramManyRow.holds Try.pinned (OpenSpec.ofChange keygramManySpec)

/-- ITS FALSE NEIGHBOUR: 'it returns false'. Refute it at one input. -/
def keygramManyWrong : ChangeSpec := { name := "keygramMany", fn := fun _ => fun
  | [d1, d2] => { results := [.lit (.bool false)], args := [d1, d2] }
  | _ => none }
def KeygramManyWrongFalsely : Prop := keygramManyRow.holds Try.pinned (OpenSpec.ofChange keygramManyWrong)

/-- 'prolepsislaw14.KeygramParses': WHATEVER THE INPUT: true; the input reads as it did. -/
def keygramParsesSpec : ChangeSpec := { name := "keygramParses", fn := fun _ => fun
  | [d] => { results := [.lit (.bool true)], args := [d] }
  | _ => none }
def keygramParsesRow : OpenClaim := { program := "ytpephndecdkfhaa", sum := "d11e07698318e8d0e4759f737c71b2d193a0ff617383f3ccb211c6a71f76f150", func := "prolepsis/prolepsislaw14.KeygramParses", spec := "keygramParses", unfollowed := true, recurses := true, apart := false }
def KeygramParsesSaid : Prop := keygramParsesRow.holds Try.pinned (OpenSpec.ofChange keygramParsesSpec)

/-- ITS FALSE NEIGHBOUR: 'it returns false'. Refute it at one input. -/
def keygramParsesWrong : ChangeSpec := { name := "keygramParses", fn := fun _ => fun
  | [d] => { results := [.lit (.bool false)], args := [d] }
  | _ => none }
def KeygramParsesWrongFalsely : Prop := keygramParsesRow.holds Try.pinned (OpenSpec.ofChange keygramParsesWrong)

/-- 'prolepsislaw14.KeygramCuts': WHATEVER THE INPUT: true; the input reads as it did. -/
def keygramCutsSpec : ChangeSpec := { name := "keygramCuts", fn := fun _ => fun
  | [d1, d2, d3] => { results := [.lit (.bool true)], args := [d1, d2, d3] }
  | _ => none }
def keygramCutsRow : OpenClaim := { program := "ytpephndecdkfhaa", sum := "d11e07698318e8d0e4759f737c71b2d193a0ff617383f3ccb211c6a71f76f150", func := "prolepsis/prolepsislaw14.KeygramCuts", spec := "keygramCuts", unfollowed := true, recurses := true, apart := false }
def KeygramCutsSaid : Prop := keygramCutsRow.holds Try.pinned (OpenSpec.ofChange keygramCutsSpec)

/-- ITS FALSE NEIGHBOUR: 'it returns false'. Refute it at one input. -/
def keygramCutsWrong : ChangeSpec := { name := "keygramCuts", fn := fun _ => fun
  | [d1, d2, d3] => { results := [.lit (.bool false)], args := [d1, d2, d3] }
  | _ => none }
def KeygramCutsWrongFalsely : Prop := keygramCutsRow.holds Try.pinned (OpenSpec.ofChange keygramCutsWrong)

/-- 'prolepsislaw14.KeygramTells': WHATEVER THE INPUT: true; the input reads as it did. -/
def keygramTellsSpec : ChangeSpec := { name := "keygramTells", fn := fun _ => fun
  | [d1, d2, d3] => { results := [.lit (.bool true)], args := [d1, d2, d3] }
  | _ => none }
def keygramTellsRow : OpenClaim := { program := "ytpephndecdkfhaa", sum := "d11e07698318e8d0e4759f737c71b2d193a0ff617383f3ccb211c6a71f76f150", func := "prolepsis/prolepsislaw14.KeygramTells", spec := "keygramTells", unfollowed := true, recurses := true, apart := false }
def KeygramTellsSaid : Prop := keygramTellsRow.holds Try.pinned (OpenSpec.ofChange keygramTellsSpec)

/-- ITS FALSE NEIGHBOUR: 'it returns false'. Refute it at one input. -/
def keygramTellsWrong : ChangeSpec := { name := "keygramTells", fn := fun _ => fun
  | [d1, d2, d3] => { results := [.lit (.bool false)], args := [d1, d2, d3] }
  | _ => none }
def KeygramTellsWrongFalsely : Prop := keygramTellsRow.holds Try.pinned (OpenSpec.ofChange keygramTellsWrong)

/- THE SECOND FORM. 'bulk': how many values and letters a reading holds, each counted each time it is reached (what is shared counts as often as it is met; a slice's spare places count too). A statement '..UptoSaid' is the law's where the arguments, and the package variables that the reading takes, are together of bulk at most 1048576: NARROWER than '..Said'. Prove '..Said' where nothing that the law and all that it calls make is longer than what came in: it says more and counts as full. Else prove '..UptoSaid'. A law counts once. -/
mutual
def uptoBulk {H : Type} : DataW H → Nat
  | .lit (.string bytes) => bytes.length + 1
  | .lit _ => 1
  | .nil => 1
  | .ptr d => uptoBulk d + 1
  | .slice elems spare => uptoBulkAll elems + uptoBulkAll spare + 1
  | .agg parts => uptoBulkAll parts + 1
  | .iface _ d => uptoBulk d + 1
  | .map entries => uptoBulkEntries entries + 1
  | .held _ => 1
def uptoBulkAll {H : Type} : List (DataW H) → Nat
  | [] => 0
  | d :: r => uptoBulk d + uptoBulkAll r
def uptoBulkEntries {H : Type} : List (Lit × DataW H) → Nat
  | [] => 0
  | x :: r => uptoBulkEntry x + uptoBulkEntries r
def uptoBulkEntry {H : Type} : Lit × DataW H → Nat
  | (.string bytes, d) => bytes.length + uptoBulk d + 1
  | (_, d) => uptoBulk d + 1
 end
def uptoSmall : (H : Type) → List (DataW H) → Bool := fun _ ds => decide (uptoBulkAll ds ≤ 1048576)
def OpenSpec.upto (s : _root_.Go.ChangeSpec) : _root_.Go.OpenSpec := { _root_.Go.OpenSpec.ofChange s with cond := some uptoSmall }

/-- 'prolepsislaw01.NumSums', WHERE WHAT IT READS IS OF BULK AT MOST 1048576: true; the input reads as it did. -/
def numSumsUptoRow : OpenClaim := { program := "ytpephndecdkfhaa", sum := "d11e07698318e8d0e4759f737c71b2d193a0ff617383f3ccb211c6a71f76f150", func := "prolepsis/prolepsislaw01.NumSums", spec := "numSums", apart := false, narrowed := true }
def NumSumsUptoSaid : Prop := numSumsUptoRow.holds Try.pinned (OpenSpec.upto numSumsSpec)

/-- 'prolepsislaw01.NumBytes', WHERE WHAT IT READS IS OF BULK AT MOST 1048576: true; the input reads as it did. -/
def numBytesUptoRow : OpenClaim := { program := "ytpephndecdkfhaa", sum := "d11e07698318e8d0e4759f737c71b2d193a0ff617383f3ccb211c6a71f76f150", func := "prolepsis/prolepsislaw01.NumBytes", spec := "numBytes", apart := false, narrowed := true }
def NumBytesUptoSaid : Prop := numBytesUptoRow.holds Try.pinned (OpenSpec.upto numBytesSpec)

/-- 'prolepsislaw01.NumReads', WHERE WHAT IT READS IS OF BULK AT MOST 1048576: true; the input reads as it did. -/
def numReadsUptoRow : OpenClaim := { program := "ytpephndecdkfhaa", sum := "d11e07698318e8d0e4759f737c71b2d193a0ff617383f3ccb211c6a71f76f150", func := "prolepsis/prolepsislaw01.NumReads", spec := "numReads", apart := false, narrowed := true }
def NumReadsUptoSaid : Prop := numReadsUptoRow.holds Try.pinned (OpenSpec.upto numReadsSpec)

/-- 'prolepsislaw01.NumJoins', WHERE WHAT IT READS IS OF BULK AT MOST 1048576: true; the input reads as it did. -/
def numJoinsUptoRow : OpenClaim := { program := "ytpephndecdkfhaa", sum := "d11e07698318e8d0e4759f737c71b2d193a0ff617383f3ccb211c6a71f76f150", func := "prolepsis/prolepsislaw01.NumJoins", spec := "numJoins", apart := false, narrowed := true }
def NumJoinsUptoSaid : Prop := numJoinsUptoRow.holds Try.pinned (OpenSpec.upto numJoinsSpec)

/-- 'prolepsislaw01.NumPlays', WHERE WHAT IT READS IS OF BULK AT MOST 1048576: true; the input reads as it did. -/
def numPlaysUptoRow : OpenClaim := { program := "ytpephndecdkfhaa", sum := "d11e07698318e8d0e4759f737c71b2d193a0ff617383f3ccb211c6a71f76f150", func := "prolepsis/prolepsislaw01.NumPlays", spec := "numPlays", unfollowed := true, recurses := true, apart := false, narrowed := true }
def NumPlaysUptoSaid : Prop := numPlaysUptoRow.holds Try.pinned (OpenSpec.upto numPlaysSpec)

/-- 'prolepsislaw01.NumNil', WHERE WHAT IT READS IS OF BULK AT MOST 1048576: true; the input reads as it did. -/
def numNilUptoRow : OpenClaim := { program := "ytpephndecdkfhaa", sum := "d11e07698318e8d0e4759f737c71b2d193a0ff617383f3ccb211c6a71f76f150", func := "prolepsis/prolepsislaw01.NumNil", spec := "numNil", unfollowed := true, recurses := true, apart := false, narrowed := true }
def NumNilUptoSaid : Prop := numNilUptoRow.holds Try.pinned (OpenSpec.upto numNilSpec)

/-- 'prolepsislaw14.KeygramMany', WHERE WHAT IT READS IS OF BULK AT MOST 1048576: true; the input reads as it did. -/
def keygramManyUptoRow : OpenClaim := { program := "ytpephndecdkfhaa", sum := "d11e07698318e8d0e4759f737c71b2d193a0ff617383f3ccb211c6a71f76f150", func := "prolepsis/prolepsislaw14.KeygramMany", spec := "keygramMany", unfollowed := true, recurses := true, apart := false, narrowed := true }
def KeygramManyUptoSaid : Prop := keygramManyUptoRow.holds Try.pinned (OpenSpec.upto keygramManySpec)

/-- 'prolepsislaw14.KeygramParses', WHERE WHAT IT READS IS OF BULK AT MOST 1048576: true; the input reads as it did. -/
def keygramParsesUptoRow : OpenClaim := { program := "ytpephndecdkfhaa", sum := "d11e07698318e8d0e4759f737c71b2d193a0ff617383f3ccb211c6a71f76f150", func := "prolepsis/prolepsislaw14.KeygramParses", spec := "keygramParses", unfollowed := true, recurses := true, apart := false, narrowed := true }
def KeygramParsesUptoSaid : Prop := keygramParsesUptoRow.holds Try.pinned (OpenSpec.upto keygramParsesSpec)

/-- 'prolepsislaw14.KeygramCuts', WHERE WHAT IT READS IS OF BULK AT MOST 1048576: true; the input reads as it did. -/
def keygramCutsUptoRow : OpenClaim := { program := "ytpephndecdkfhaa", sum := "d11e07698318e8d0e4759f737c71b2d193a0ff617383f3ccb211c6a71f76f150", func := "prolepsis/prolepsislaw14.KeygramCuts", spec := "keygramCuts", unfollowed := true, recurses := true, apart := false, narrowed := true }
def KeygramCutsUptoSaid : Prop := keygramCutsUptoRow.holds Try.pinned (OpenSpec.upto keygramCutsSpec)

/-- 'prolepsislaw14.KeygramTells', WHERE WHAT IT READS IS OF BULK AT MOST 1048576: true; the input reads as it did. -/
def keygramTellsUptoRow : OpenClaim := { program := "ytpephndecdkfhaa", sum := "d11e07698318e8d0e4759f737c71b2d193a0ff617383f3ccb211c6a71f76f150", func := "prolepsis/prolepsislaw14.KeygramTells", spec := "keygramTells", unfollowed := true, recurses := true, apart := false, narrowed := true }
def KeygramTellsUptoSaid : Prop := keygramTellsUptoRow.holds Try.pinned (OpenSpec.upto keygramTellsSpec)

end Rows
end Go.Proofs.Ytpephndecdkfhaa
