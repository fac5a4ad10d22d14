/- What the law UtfStreams reaches: each function with its contract. -/
import Derived.Test.YtglcopljhanhmaaArrEq
import Derived.Test.YtglcopljhanhmaaSetSome
import Derived.Test.YtglcopljhanhmaaUtfD
import Derived.Test.YtglcopljhanhmaaUtfF
import Derived.Test.YtglcopljhanhmaaUtfG
import Derived.Test.YtglcopljhanhmaaUtfH
import Derived.Test.YtglcopljhanhmaaProg
import Derived.Below
import Derived.Deep.Draws
import Derived.Deep.AppendLies
import Derived.Maps.AppendAt
import Derived.OwnWalk
import Derived.Laws.BytesArg
import Derived.Laws.MakeOwn
import Derived.Laws.OwnMore
import Derived.Deep.OwnRows
import Derived.Tactics
import Derived.Lib.ConvBytes
import Derived.Laws.Slices
import Derived.WalkKit
import Derived.KernelRfl
import Derived.RowKit3
import Derived.Deep.LoopGhost
import Derived.Deep.QuietTactic
import Derived.BigQuiet
import Derived.WideLaws
import Derived.Deep.DeepCutAuto
import Derived.Deep.CutBlock
import Derived.Deep.RegionHeld3
import Derived.Laws.Rows
import Derived.Lib.AppendStr
import Derived.ArgAppend
import Derived.Laws.IdiomCopy
import Derived.OrdersHeld
import Derived.Laws.BitsLemmas
import Derived.RowKit
import Derived.Test.YtglcopljhanhmaaWWords
import Derived.Test.YtglcopljhanhmaaWLast
import Derived.Test.YtglcopljhanhmaaWTab
import Derived.Test.YtglcopljhanhmaaWFour
import Derived.Test.YtglcopljhanhmaaWQPut
import Derived.Test.YtglcopljhanhmaaWApart
import Derived.Test.YtglcopljhanhmaaWArr
import Derived.Test.YtglcopljhanhmaaWZeros
import Derived.Test.YtglcopljhanhmaaWFoot
import Derived.Test.YtglcopljhanhmaaWKept
import Derived.Test.YtglcopljhanhmaaWShare
import Derived.Test.YtglcopljhanhmaaWN
import Derived.Test.YtglcopljhanhmaaWFootNe
import Derived.Test.YtglcopljhanhmaaWAt
import Derived.Test.YtglcopljhanhmaaWEqStruct
import Derived.Test.YtglcopljhanhmaaWRepsOne
import Derived.Test.YtglcopljhanhmaaWInv
import Derived.Test.YtglcopljhanhmaaWInvWords
import Derived.Test.YtglcopljhanhmaaWGuard
import Derived.Test.YtglcopljhanhmaaWNEv
import Derived.Test.YtglcopljhanhmaaWMore
namespace Go.Proofs.Ytglcopljhanhmaa.PUtfStreams
open Go.RowKit Go.Proofs.YtglcopljhanhmaaW.PrintWords Go.Proofs.YtglcopljhanhmaaW.PrintLast Go.Proofs.YtglcopljhanhmaaW.PrintMore
attribute [local go_sem] isSome_setCell max2_int min2_int max_two min_two max_three min_three max_four min_four   -- for this text's walks alone
set_option linter.unusedVariables false
set_option linter.unusedSimpArgs false



def errW : Option Int → Value
  | none => .nilIface
  | some c => .iface 0 (.int .i64 c)
theorem errW_none : errW none = .nilIface := rfl
theorem errW_some (c : Int) : errW (some c) = .iface 0 (.int .i64 c) := rfl

theorem info3 : (Try.prog.info? 3).map (fun i => (i.zero, i.size, i.bytes)) = some (some (.int .i64 0), 1, 8) := by kernel_rfl
theorem info5 : (Try.prog.info? 5).map (fun i => (i.zero, i.size, i.bytes)) = some (some (.int .u8 0), 1, 1) := by kernel_rfl
theorem info21 : (Try.prog.info? 21).map (fun i => (i.zero, i.size, i.bytes)) = some (some (.int .i32 0), 1, 4) := by kernel_rfl
-- the values' own types

end Go.Proofs.Ytglcopljhanhmaa.PUtfStreams
