/- GridNil: what its proof leads to. No condition. -/
import Derived.Test.YtblcmcdifgclcaaPGridSamex0qGridNil
import Derived.Test.YtblcmcdifgclcaaShortqGridNil
namespace Go.Proofs.Ytblcmcdifgclcaa.PGridSame
open Go.RowKit Go.Proofs.YtblcmcdifgclcaaW.PrintWords Go.Proofs.YtblcmcdifgclcaaW.PrintLast Go.Proofs.YtblcmcdifgclcaaW.PrintMore
attribute [local go_sem] max2_int min2_int max_two min_two
set_option linter.unusedVariables false
set_option linter.unusedSimpArgs false

theorem eqA22 (d : Nat) (w : World) (x0 y0 : Int) (x1 y1 : Int) :
    (Op.equalIn (d + 2) 22 (.agg #[.int .i32 x0, .int .i32 x1]) (.agg #[.int .i32 y0, .int .i32 y1])).run Try.prog w = .ok (x0 == y0 && (x1 == y1)) w := by
  exact eqArr2 d 22 21 .i32 Try.underlying22 Try.underlying21 (by kernel_rfl) x0 y0 x1 y1 w
theorem eqA24 (d : Nat) (w : World) (x0 y0 : Int) (x1 y1 : Int) (x2 y2 : Int) :
    (Op.equalIn (d + 2) 24 (.agg #[.int .u8 x0, .int .u8 x1, .int .u8 x2]) (.agg #[.int .u8 y0, .int .u8 y1, .int .u8 y2])).run Try.prog w = .ok (x0 == y0 && (x1 == y1 && (x2 == y2))) w := by
  refine eqA_of Try.underlying24 (by kernel_rfl) ?_
  refine eqf_cons (by rfl) (by go_simp; rfl) (by go_simp; rfl) (by go_simp) ?_
  refine eqf_cons (by rfl) (by go_simp; rfl) (by go_simp; rfl) (by go_simp) ?_
  exact eqf_last (by rfl) (by go_simp; rfl) (by go_simp; rfl) (by go_simp)
theorem eqA26 (d : Nat) (w : World) (x0 y0 : Int) (x1 y1 : Int) (x2 y2 : Int) (x3 y3 : Int) (x4 y4 : Int) (x5 y5 : Int) (x6 y6 : Int) :
    (Op.equalIn (d + 3) 26 (.agg #[.int .i32 x0, .int .i32 x1, .int .i32 x2, .int .u8 x3, .int .u8 x4, .int .u8 x5, .int .u8 x6]) (.agg #[.int .i32 y0, .int .i32 y1, .int .i32 y2, .int .u8 y3, .int .u8 y4, .int .u8 y5, .int .u8 y6])).run Try.prog w = .ok (x0 == y0 && ((x1 == y1 && (x2 == y2)) && (x3 == y3 && ((x4 == y4 && (x5 == y5 && (x6 == y6))))))) w := by
  refine eqA_of Try.underlying26 (by kernel_rfl) ?_
  refine eqf_cons (by rfl) (by go_simp; rfl) (by go_simp; rfl) (by go_simp) ?_
  refine eqf_cons (by rfl) (by go_simp) (by go_simp) (eqA22 (d + 0) w _ _ _ _) ?_
  refine eqf_cons (by rfl) (by go_simp; rfl) (by go_simp; rfl) (by go_simp) ?_
  exact eqf_last (by rfl) (by go_simp) (by go_simp) (eqA24 (d + 0) w _ _ _ _ _ _)
end Go.Proofs.Ytblcmcdifgclcaa.PGridSame
