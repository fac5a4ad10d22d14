/- GridNil: what its proof leads to. No condition. -/
import Derived.Test.YtblcmcdifgclcaaGrXqGridNil
namespace Go.Proofs.Ytblcmcdifgclcaa.Grd
open Go.RowKit Go.Proofs.Ytblcmcdifgclcaa Go.Proofs.Ytblcmcdifgclcaa.PGridSame Go.Proofs.YtblcmcdifgclcaaW.PrintWords Go.Proofs.YtblcmcdifgclcaaW.PrintLast Go.Proofs.YtblcmcdifgclcaaW.PrintMore
set_option linter.unusedVariables false
set_option linter.unusedSimpArgs false
set_option maxRecDepth 100000
set_option maxHeartbeats 4000000
abbrev kC : CS := ⟨97, ⟨0, 0⟩, 1, ⟨0, 0, 0⟩⟩
theorem kc_of : cell_Of.f 97 0 0 0 = some (97, 0, 0, 1, 0, 0, 0, true) := by kernel_rfl
theorem kc_size : gSize 2 3 = true := by decide +kernel
theorem kc_put : (gPut (gNew 2 3) 0 0 kC).2 = true := by decide +kernel
theorem kc_pen : penR 0 0 0 = true := by decide +kernel
theorem kc_at : gAt (gScroll (gPut (gNew 2 3) 0 0 kC).1 (-1) 0 0 0) 1 0 = (kC, true) := by decide +kernel
theorem kc_fsize : gSize 1 2 = true := by decide +kernel
theorem kc_rows : (gFit (gScroll (gPut (gNew 2 3) 0 0 kC).1 (-1) 0 0 0) 1 2).L.length = 1 := by decide +kernel
theorem kc_cols : (gFit (gScroll (gPut (gNew 2 3) 0 0 kC).1 (-1) 0 0 0) 1 2).cols = 2 := by decide +kernel
theorem kc_has : gHas (gFit (gScroll (gPut (gNew 2 3) 0 0 kC).1 (-1) 0 0 0) 1 2) 0 = true := by decide +kernel
theorem kc_used : line_Used.f 10 (gLn (gFit (gScroll (gPut (gNew 2 3) 0 0 kC).1 (-1) 0 0 0) 1 2) 0) = some 0 := by kernel_rfl
end Go.Proofs.Ytblcmcdifgclcaa.Grd
