/-
  No cell of these rows narrows 'for every input' (looked for: loops, veiled, ifaces, maps, wideKeys, modest, calm, conditions, laid).
  DERIVED. THE GIVEN ROWS OF THIS SEAT. 11 by the template 'for every input the law returns true; each argument reads behind the call as it read before'; 0 by the template 'total and deterministic' (their statements: YtblcmcdifgclcaaTotals.lean).
  GIVEN WITH THE SEED: the statements are not yours to turn. If you find one false, say at which input.
  Laid BY PROGRAM, IN A SANDBOX (cutbox-rows.mjs): the forced cells as the released guide's own fill.sh prints them over the translation 0dcfc120d6cd4e9b… (all of the seat's roots in one cut). By AI agents, Wed Nov 11 2026. No macro, syntax, notation, axiom, sorry.
-/
import Derived.Test.YtblcmcdifgclcaaChecked
import GoSem.Claim
import GoSem.ClaimJoined
import GoSem.ClaimMapViews
import Derived.JoinedTies
import Derived.KernelRfl
namespace Go.Proofs.Ytblcmcdifgclcaa
/- THE CELL 'sum', in the pinned program and in every row, IS THE sha256 OF THE DUMP (.gsa) THAT YtblcmcdifgclcaaProg.lean LOADS. Nothing in Lean hashes anything: it is a label: what it is worth is what the hold of that sum in a sandbox is worth. -/
noncomputable def Try.pinned : Pinned := { name := "ytblcmcdifgclcaa", sum := "0dcfc120d6cd4e9b70998bd67b5a507886e6eb196d007b293b463c6ab77abf46", checked := Try.checked }
namespace Rows
def none {H : Type} : Left H := { results := [], args := [] }

/-- 'prolepsislaw05.CellMakes': WHATEVER THE INPUT: true; the input reads as it did. -/
def cellMakesSpec : ChangeSpec := { name := "cellMakes", fn := fun _ => fun
  | [d1, d2, d3] => { results := [.lit (.bool true)], args := [d1, d2, d3] }
  | _ => none }
def cellMakesRow : OpenClaim := { program := "ytblcmcdifgclcaa", sum := "0dcfc120d6cd4e9b70998bd67b5a507886e6eb196d007b293b463c6ab77abf46", func := "prolepsis/prolepsislaw05.CellMakes", spec := "cellMakes", unfollowed := true, recurses := true, apart := false }
def CellMakesSaid : Prop := cellMakesRow.holds Try.pinned (OpenSpec.ofChange cellMakesSpec)

/-- ITS FALSE NEIGHBOUR: 'it returns false'. Refute it at one input. -/
def cellMakesWrong : ChangeSpec := { name := "cellMakes", fn := fun _ => fun
  | [d1, d2, d3] => { results := [.lit (.bool false)], args := [d1, d2, d3] }
  | _ => none }
def CellMakesWrongFalsely : Prop := cellMakesRow.holds Try.pinned (OpenSpec.ofChange cellMakesWrong)

/-- 'prolepsislaw05.CellRight': WHATEVER THE INPUT: true; the input reads as it did. -/
def cellRightSpec : ChangeSpec := { name := "cellRight", fn := fun _ => fun
  | [d1, d2] => { results := [.lit (.bool true)], args := [d1, d2] }
  | _ => none }
def cellRightRow : OpenClaim := { program := "ytblcmcdifgclcaa", sum := "0dcfc120d6cd4e9b70998bd67b5a507886e6eb196d007b293b463c6ab77abf46", func := "prolepsis/prolepsislaw05.CellRight", spec := "cellRight", unfollowed := true, recurses := true, apart := false }
def CellRightSaid : Prop := cellRightRow.holds Try.pinned (OpenSpec.ofChange cellRightSpec)

/-- ITS FALSE NEIGHBOUR: 'it returns false'. Refute it at one input. -/
def cellRightWrong : ChangeSpec := { name := "cellRight", fn := fun _ => fun
  | [d1, d2] => { results := [.lit (.bool false)], args := [d1, d2] }
  | _ => none }
def CellRightWrongFalsely : Prop := cellRightRow.holds Try.pinned (OpenSpec.ofChange cellRightWrong)

/-- 'prolepsislaw05.CellStays': WHATEVER THE INPUT: true; the input reads as it did. -/
def cellStaysSpec : ChangeSpec := { name := "cellStays", fn := fun _ => fun
  | [d1, d2, d3] => { results := [.lit (.bool true)], args := [d1, d2, d3] }
  | _ => none }
def cellStaysRow : OpenClaim := { program := "ytblcmcdifgclcaa", sum := "0dcfc120d6cd4e9b70998bd67b5a507886e6eb196d007b293b463c6ab77abf46", func := "prolepsis/prolepsislaw05.CellStays", spec := "cellStays", unfollowed := true, recurses := true, apart := false }
def CellStaysSaid : Prop := cellStaysRow.holds Try.pinned (OpenSpec.ofChange cellStaysSpec)

/-- ITS FALSE NEIGHBOUR: 'it returns false'. Refute it at one input. -/
def cellStaysWrong : ChangeSpec := { name := "cellStays", fn := fun _ => fun
  | [d1, d2, d3] => { results := [.lit (.bool false)], args := [d1, d2, d3] }
  | _ => none }
def CellStaysWrongFalsely : Prop := cellStaysRow.holds Try.pinned (OpenSpec.ofChange cellStaysWrong)

/-- 'prolepsislaw06.LineTwice': WHATEVER THE INPUT: true; the input reads as it did. -/
def lineTwiceSpec : ChangeSpec := { name := "lineTwice", fn := fun _ => fun
  | [d1, d2, d3, d4, d5, d6] => { results := [.lit (.bool true)], args := [d1, d2, d3, d4, d5, d6] }
  | _ => none }
def lineTwiceRow : OpenClaim := { program := "ytblcmcdifgclcaa", sum := "0dcfc120d6cd4e9b70998bd67b5a507886e6eb196d007b293b463c6ab77abf46", func := "prolepsis/prolepsislaw06.LineTwice", spec := "lineTwice", unfollowed := true, recurses := true, apart := false }
def LineTwiceSaid : Prop := lineTwiceRow.holds Try.pinned (OpenSpec.ofChange lineTwiceSpec)

/-- ITS FALSE NEIGHBOUR: 'it returns false'. Refute it at one input. -/
def lineTwiceWrong : ChangeSpec := { name := "lineTwice", fn := fun _ => fun
  | [d1, d2, d3, d4, d5, d6] => { results := [.lit (.bool false)], args := [d1, d2, d3, d4, d5, d6] }
  | _ => none }
def LineTwiceWrongFalsely : Prop := lineTwiceRow.holds Try.pinned (OpenSpec.ofChange lineTwiceWrong)

/-- 'prolepsislaw06.LineMakes': WHATEVER THE INPUT: true; the input reads as it did. -/
def lineMakesSpec : ChangeSpec := { name := "lineMakes", fn := fun _ => fun
  | [d1, d2, d3, d4, d5, d6] => { results := [.lit (.bool true)], args := [d1, d2, d3, d4, d5, d6] }
  | _ => none }
def lineMakesRow : OpenClaim := { program := "ytblcmcdifgclcaa", sum := "0dcfc120d6cd4e9b70998bd67b5a507886e6eb196d007b293b463c6ab77abf46", func := "prolepsis/prolepsislaw06.LineMakes", spec := "lineMakes", unfollowed := true, recurses := true, apart := false }
def LineMakesSaid : Prop := lineMakesRow.holds Try.pinned (OpenSpec.ofChange lineMakesSpec)

/-- ITS FALSE NEIGHBOUR: 'it returns false'. Refute it at one input. -/
def lineMakesWrong : ChangeSpec := { name := "lineMakes", fn := fun _ => fun
  | [d1, d2, d3, d4, d5, d6] => { results := [.lit (.bool false)], args := [d1, d2, d3, d4, d5, d6] }
  | _ => none }
def LineMakesWrongFalsely : Prop := lineMakesRow.holds Try.pinned (OpenSpec.ofChange lineMakesWrong)

/-- 'prolepsislaw06.LineStays': WHATEVER THE INPUT: true; the input reads as it did. -/
def lineStaysSpec : ChangeSpec := { name := "lineStays", fn := fun _ => fun
  | [d1, d2, d3, d4, d5, d6] => { results := [.lit (.bool true)], args := [d1, d2, d3, d4, d5, d6] }
  | _ => none }
def lineStaysRow : OpenClaim := { program := "ytblcmcdifgclcaa", sum := "0dcfc120d6cd4e9b70998bd67b5a507886e6eb196d007b293b463c6ab77abf46", func := "prolepsis/prolepsislaw06.LineStays", spec := "lineStays", unfollowed := true, recurses := true, apart := false }
def LineStaysSaid : Prop := lineStaysRow.holds Try.pinned (OpenSpec.ofChange lineStaysSpec)

/-- ITS FALSE NEIGHBOUR: 'it returns false'. Refute it at one input. -/
def lineStaysWrong : ChangeSpec := { name := "lineStays", fn := fun _ => fun
  | [d1, d2, d3, d4, d5, d6] => { results := [.lit (.bool false)], args := [d1, d2, d3, d4, d5, d6] }
  | _ => none }
def LineStaysWrongFalsely : Prop := lineStaysRow.holds Try.pinned (OpenSpec.ofChange lineStaysWrong)

/-- 'prolepsislaw06.LineAsks': WHATEVER THE INPUT: true; the input reads as it did. -/
def lineAsksSpec : ChangeSpec := { name := "lineAsks", fn := fun _ => fun
  | [d1, d2] => { results := [.lit (.bool true)], args := [d1, d2] }
  | _ => none }
def lineAsksRow : OpenClaim := { program := "ytblcmcdifgclcaa", sum := "0dcfc120d6cd4e9b70998bd67b5a507886e6eb196d007b293b463c6ab77abf46", func := "prolepsis/prolepsislaw06.LineAsks", spec := "lineAsks", unfollowed := true, recurses := true, apart := false }
def LineAsksSaid : Prop := lineAsksRow.holds Try.pinned (OpenSpec.ofChange lineAsksSpec)

/-- ITS FALSE NEIGHBOUR: 'it returns false'. Refute it at one input. -/
def lineAsksWrong : ChangeSpec := { name := "lineAsks", fn := fun _ => fun
  | [d1, d2] => { results := [.lit (.bool false)], args := [d1, d2] }
  | _ => none }
def LineAsksWrongFalsely : Prop := lineAsksRow.holds Try.pinned (OpenSpec.ofChange lineAsksWrong)

/-- 'prolepsislaw07.GridNil': WHATEVER THE INPUT: true; the input reads as it did. -/
def gridNilSpec : ChangeSpec := { name := "gridNil", fn := fun _ => fun
  | [d] => { results := [.lit (.bool true)], args := [d] }
  | _ => none }
def gridNilRow : OpenClaim := { program := "ytblcmcdifgclcaa", sum := "0dcfc120d6cd4e9b70998bd67b5a507886e6eb196d007b293b463c6ab77abf46", func := "prolepsis/prolepsislaw07.GridNil", spec := "gridNil", unfollowed := true, recurses := true, apart := false }
def GridNilSaid : Prop := gridNilRow.holds Try.pinned (OpenSpec.ofChange gridNilSpec)

/-- ITS FALSE NEIGHBOUR: 'it returns false'. Refute it at one input. -/
def gridNilWrong : ChangeSpec := { name := "gridNil", fn := fun _ => fun
  | [d] => { results := [.lit (.bool false)], args := [d] }
  | _ => none }
def GridNilWrongFalsely : Prop := gridNilRow.holds Try.pinned (OpenSpec.ofChange gridNilWrong)

/-- 'prolepsislaw07.GridSame': WHATEVER THE INPUT: true; the input reads as it did. -/
def gridSameSpec : ChangeSpec := { name := "gridSame", fn := fun _ => fun
  | [d1, d2, d3, d4] => { results := [.lit (.bool true)], args := [d1, d2, d3, d4] }
  | _ => none }
def gridSameRow : OpenClaim := { program := "ytblcmcdifgclcaa", sum := "0dcfc120d6cd4e9b70998bd67b5a507886e6eb196d007b293b463c6ab77abf46", func := "prolepsis/prolepsislaw07.GridSame", spec := "gridSame", unfollowed := true, recurses := true, apart := false }
def GridSameSaid : Prop := gridSameRow.holds Try.pinned (OpenSpec.ofChange gridSameSpec)

/-- ITS FALSE NEIGHBOUR: 'it returns false'. Refute it at one input. -/
def gridSameWrong : ChangeSpec := { name := "gridSame", fn := fun _ => fun
  | [d1, d2, d3, d4] => { results := [.lit (.bool false)], args := [d1, d2, d3, d4] }
  | _ => none }
def GridSameWrongFalsely : Prop := gridSameRow.holds Try.pinned (OpenSpec.ofChange gridSameWrong)

/-- 'prolepsislaw07.GridApart': WHATEVER THE INPUT: true; the input reads as it did. -/
def gridApartSpec : ChangeSpec := { name := "gridApart", fn := fun _ => fun
  | [d1, d2, d3, d4] => { results := [.lit (.bool true)], args := [d1, d2, d3, d4] }
  | _ => none }
def gridApartRow : OpenClaim := { program := "ytblcmcdifgclcaa", sum := "0dcfc120d6cd4e9b70998bd67b5a507886e6eb196d007b293b463c6ab77abf46", func := "prolepsis/prolepsislaw07.GridApart", spec := "gridApart", unfollowed := true, recurses := true, apart := false }
def GridApartSaid : Prop := gridApartRow.holds Try.pinned (OpenSpec.ofChange gridApartSpec)

/-- ITS FALSE NEIGHBOUR: 'it returns false'. Refute it at one input. -/
def gridApartWrong : ChangeSpec := { name := "gridApart", fn := fun _ => fun
  | [d1, d2, d3, d4] => { results := [.lit (.bool false)], args := [d1, d2, d3, d4] }
  | _ => none }
def GridApartWrongFalsely : Prop := gridApartRow.holds Try.pinned (OpenSpec.ofChange gridApartWrong)

/-- 'prolepsislaw07.GridScrolls': WHATEVER THE INPUT: true; the input reads as it did. -/
def gridScrollsSpec : ChangeSpec := { name := "gridScrolls", fn := fun _ => fun
  | [d1, d2, d3, d4, d5, d6] => { results := [.lit (.bool true)], args := [d1, d2, d3, d4, d5, d6] }
  | _ => none }
def gridScrollsRow : OpenClaim := { program := "ytblcmcdifgclcaa", sum := "0dcfc120d6cd4e9b70998bd67b5a507886e6eb196d007b293b463c6ab77abf46", func := "prolepsis/prolepsislaw07.GridScrolls", spec := "gridScrolls", unfollowed := true, recurses := true, apart := false }
def GridScrollsSaid : Prop := gridScrollsRow.holds Try.pinned (OpenSpec.ofChange gridScrollsSpec)

/-- ITS FALSE NEIGHBOUR: 'it returns false'. Refute it at one input. -/
def gridScrollsWrong : ChangeSpec := { name := "gridScrolls", fn := fun _ => fun
  | [d1, d2, d3, d4, d5, d6] => { results := [.lit (.bool false)], args := [d1, d2, d3, d4, d5, d6] }
  | _ => none }
def GridScrollsWrongFalsely : Prop := gridScrollsRow.holds Try.pinned (OpenSpec.ofChange gridScrollsWrong)

/- THE SECOND FORM. 'bulk': how many values and letters a reading holds, each counted each time it is reached (what is shared counts as often as it is met; a slice's spare places count too). A statement '..UptoSaid' is the law's where the arguments, and the package variables that the reading takes, are together of bulk at most 1048576: NARROWER than '..Said'. Prove '..Said' where nothing that the law and all that it calls make is longer than what came in: it says more and counts as full. Else prove '..UptoSaid'. A law counts once. -/
mutual
def uptoBulk {H : Type} : DataW H → Nat
  | .lit (.string bytes) => bytes.length + 1
  | .lit _ => 1
  | .nil => 1
  | .ptr d => uptoBulk d + 1
  | .slice elems spare => uptoBulkAll elems + uptoBulkAll spare + 1
  | .agg parts => uptoBulkAll parts + 1
  | .iface _ d => uptoBulk d + 1
  | .map entries => uptoBulkEntries entries + 1
  | .held _ => 1
def uptoBulkAll {H : Type} : List (DataW H) → Nat
  | [] => 0
  | d :: r => uptoBulk d + uptoBulkAll r
def uptoBulkEntries {H : Type} : List (Lit × DataW H) → Nat
  | [] => 0
  | x :: r => uptoBulkEntry x + uptoBulkEntries r
def uptoBulkEntry {H : Type} : Lit × DataW H → Nat
  | (.string bytes, d) => bytes.length + uptoBulk d + 1
  | (_, d) => uptoBulk d + 1
 end
def uptoSmall : (H : Type) → List (DataW H) → Bool := fun _ ds => decide (uptoBulkAll ds ≤ 1048576)
def OpenSpec.upto (s : _root_.Go.ChangeSpec) : _root_.Go.OpenSpec := { _root_.Go.OpenSpec.ofChange s with cond := some uptoSmall }

/-- 'prolepsislaw05.CellMakes', WHERE WHAT IT READS IS OF BULK AT MOST 1048576: true; the input reads as it did. -/
def cellMakesUptoRow : OpenClaim := { program := "ytblcmcdifgclcaa", sum := "0dcfc120d6cd4e9b70998bd67b5a507886e6eb196d007b293b463c6ab77abf46", func := "prolepsis/prolepsislaw05.CellMakes", spec := "cellMakes", unfollowed := true, recurses := true, apart := false, narrowed := true }
def CellMakesUptoSaid : Prop := cellMakesUptoRow.holds Try.pinned (OpenSpec.upto cellMakesSpec)

/-- 'prolepsislaw05.CellRight', WHERE WHAT IT READS IS OF BULK AT MOST 1048576: true; the input reads as it did. -/
def cellRightUptoRow : OpenClaim := { program := "ytblcmcdifgclcaa", sum := "0dcfc120d6cd4e9b70998bd67b5a507886e6eb196d007b293b463c6ab77abf46", func := "prolepsis/prolepsislaw05.CellRight", spec := "cellRight", unfollowed := true, recurses := true, apart := false, narrowed := true }
def CellRightUptoSaid : Prop := cellRightUptoRow.holds Try.pinned (OpenSpec.upto cellRightSpec)

/-- 'prolepsislaw05.CellStays', WHERE WHAT IT READS IS OF BULK AT MOST 1048576: true; the input reads as it did. -/
def cellStaysUptoRow : OpenClaim := { program := "ytblcmcdifgclcaa", sum := "0dcfc120d6cd4e9b70998bd67b5a507886e6eb196d007b293b463c6ab77abf46", func := "prolepsis/prolepsislaw05.CellStays", spec := "cellStays", unfollowed := true, recurses := true, apart := false, narrowed := true }
def CellStaysUptoSaid : Prop := cellStaysUptoRow.holds Try.pinned (OpenSpec.upto cellStaysSpec)

/-- 'prolepsislaw06.LineTwice', WHERE WHAT IT READS IS OF BULK AT MOST 1048576: true; the input reads as it did. -/
def lineTwiceUptoRow : OpenClaim := { program := "ytblcmcdifgclcaa", sum := "0dcfc120d6cd4e9b70998bd67b5a507886e6eb196d007b293b463c6ab77abf46", func := "prolepsis/prolepsislaw06.LineTwice", spec := "lineTwice", unfollowed := true, recurses := true, apart := false, narrowed := true }
def LineTwiceUptoSaid : Prop := lineTwiceUptoRow.holds Try.pinned (OpenSpec.upto lineTwiceSpec)

/-- 'prolepsislaw06.LineMakes', WHERE WHAT IT READS IS OF BULK AT MOST 1048576: true; the input reads as it did. -/
def lineMakesUptoRow : OpenClaim := { program := "ytblcmcdifgclcaa", sum := "0dcfc120d6cd4e9b70998bd67b5a507886e6eb196d007b293b463c6ab77abf46", func := "prolepsis/prolepsislaw06.LineMakes", spec := "lineMakes", unfollowed := true, recurses := true, apart := false, narrowed := true }
def LineMakesUptoSaid : Prop := lineMakesUptoRow.holds Try.pinned (OpenSpec.upto lineMakesSpec)

/-- 'prolepsislaw06.LineStays', WHERE WHAT IT READS IS OF BULK AT MOST 1048576: true; the input reads as it did. -/
def lineStaysUptoRow : OpenClaim := { program := "ytblcmcdifgclcaa", sum := "0dcfc120d6cd4e9b70998bd67b5a507886e6eb196d007b293b463c6ab77abf46", func := "prolepsis/prolepsislaw06.LineStays", spec := "lineStays", unfollowed := true, recurses := true, apart := false, narrowed := true }
def LineStaysUptoSaid : Prop := lineStaysUptoRow.holds Try.pinned (OpenSpec.upto lineStaysSpec)

/-- 'prolepsislaw06.LineAsks', WHERE WHAT IT READS IS OF BULK AT MOST 1048576: true; the input reads as it did. -/
def lineAsksUptoRow : OpenClaim := { program := "ytblcmcdifgclcaa", sum := "0dcfc120d6cd4e9b70998bd67b5a507886e6eb196d007b293b463c6ab77abf46", func := "prolepsis/prolepsislaw06.LineAsks", spec := "lineAsks", unfollowed := true, recurses := true, apart := false, narrowed := true }
def LineAsksUptoSaid : Prop := lineAsksUptoRow.holds Try.pinned (OpenSpec.upto lineAsksSpec)

/-- 'prolepsislaw07.GridNil', WHERE WHAT IT READS IS OF BULK AT MOST 1048576: true; the input reads as it did. -/
def gridNilUptoRow : OpenClaim := { program := "ytblcmcdifgclcaa", sum := "0dcfc120d6cd4e9b70998bd67b5a507886e6eb196d007b293b463c6ab77abf46", func := "prolepsis/prolepsislaw07.GridNil", spec := "gridNil", unfollowed := true, recurses := true, apart := false, narrowed := true }
def GridNilUptoSaid : Prop := gridNilUptoRow.holds Try.pinned (OpenSpec.upto gridNilSpec)

/-- 'prolepsislaw07.GridSame', WHERE WHAT IT READS IS OF BULK AT MOST 1048576: true; the input reads as it did. -/
def gridSameUptoRow : OpenClaim := { program := "ytblcmcdifgclcaa", sum := "0dcfc120d6cd4e9b70998bd67b5a507886e6eb196d007b293b463c6ab77abf46", func := "prolepsis/prolepsislaw07.GridSame", spec := "gridSame", unfollowed := true, recurses := true, apart := false, narrowed := true }
def GridSameUptoSaid : Prop := gridSameUptoRow.holds Try.pinned (OpenSpec.upto gridSameSpec)

/-- 'prolepsislaw07.GridApart', WHERE WHAT IT READS IS OF BULK AT MOST 1048576: true; the input reads as it did. -/
def gridApartUptoRow : OpenClaim := { program := "ytblcmcdifgclcaa", sum := "0dcfc120d6cd4e9b70998bd67b5a507886e6eb196d007b293b463c6ab77abf46", func := "prolepsis/prolepsislaw07.GridApart", spec := "gridApart", unfollowed := true, recurses := true, apart := false, narrowed := true }
def GridApartUptoSaid : Prop := gridApartUptoRow.holds Try.pinned (OpenSpec.upto gridApartSpec)

/-- 'prolepsislaw07.GridScrolls', WHERE WHAT IT READS IS OF BULK AT MOST 1048576: true; the input reads as it did. -/
def gridScrollsUptoRow : OpenClaim := { program := "ytblcmcdifgclcaa", sum := "0dcfc120d6cd4e9b70998bd67b5a507886e6eb196d007b293b463c6ab77abf46", func := "prolepsis/prolepsislaw07.GridScrolls", spec := "gridScrolls", unfollowed := true, recurses := true, apart := false, narrowed := true }
def GridScrollsUptoSaid : Prop := gridScrollsUptoRow.holds Try.pinned (OpenSpec.upto gridScrollsSpec)

end Rows
end Go.Proofs.Ytblcmcdifgclcaa
