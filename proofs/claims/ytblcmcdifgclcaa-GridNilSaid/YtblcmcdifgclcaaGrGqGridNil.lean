/- GridNil: what its proof leads to. No condition. -/
import Derived.Test.YtblcmcdifgclcaaGrFqGridNil
namespace Go.Proofs.Ytblcmcdifgclcaa.Grd
open Go.RowKit Go.Proofs.Ytblcmcdifgclcaa Go.Proofs.Ytblcmcdifgclcaa.PGridSame Go.Proofs.YtblcmcdifgclcaaW.PrintWords Go.Proofs.YtblcmcdifgclcaaW.PrintLast Go.Proofs.YtblcmcdifgclcaaW.PrintMore
set_option linter.unusedVariables false
set_option linter.unusedSimpArgs false
set_option maxRecDepth 100000
set_option maxHeartbeats 4000000
attribute [local go_sem] max2_int min2_int max_two min_two
theorem take_more {α : Type} {L : List α} {i : Nat} {l : α} (h : L[i]? = some l) : L.take (i + 1) = L.take i ++ [l] := by rw [List.take_add_one, h]; rfl
end Go.Proofs.Ytblcmcdifgclcaa.Grd
