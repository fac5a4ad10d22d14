/- What the law CellRight reaches: each function with its contract. -/
import Derived.Test.YtblcmcdifgclcaaPCellRightx0
namespace Go.Proofs.Ytblcmcdifgclcaa.PCellRight
open Go.RowKit Go.Proofs.YtblcmcdifgclcaaW.PrintWords Go.Proofs.YtblcmcdifgclcaaW.PrintLast Go.Proofs.YtblcmcdifgclcaaW.PrintMore
attribute [local go_sem] max2_int min2_int max_two min_two max_three min_three max_four min_four   -- for this text's walks alone
set_option linter.unusedVariables false
set_option linter.unusedSimpArgs false

theorem eqA29 (d : Nat) (w : World) (x0 y0 : Int) (x1 y1 : Int) :
    (Op.equalIn (d + 2) 29 (.agg #[.int .i64 x0, .int .i64 x1]) (.agg #[.int .i64 y0, .int .i64 y1])).run Try.prog w = .ok (x0 == y0 && (x1 == y1)) w := by
  exact eqArr2 d 29 3 .i64 Try.underlying29 Try.underlying3 (by kernel_rfl) x0 y0 x1 y1 w
end Go.Proofs.Ytblcmcdifgclcaa.PCellRight
