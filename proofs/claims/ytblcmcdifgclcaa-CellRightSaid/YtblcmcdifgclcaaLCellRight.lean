/- CellRight holds: whether any cells are right, and alike, and a cell's runes, are the document's. No condition. -/
import Derived.Test.YtblcmcdifgclcaaRows
import Derived.Test.YtblcmcdifgclcaaOpnCell
import Derived.Test.YtblcmcdifgclcaaPureCellRight
import Derived.ProofKit
import Derived.OpenShut
namespace Go.Proofs.Ytblcmcdifgclcaa
open Go.ChangeShapes Go.WideShapes Go.ChangeAt Go.RowKit Go.Proofs.YtblcmcdifgclcaaW.PrintWords Go.Proofs.YtblcmcdifgclcaaW.PrintLast Go.Proofs.YtblcmcdifgclcaaW.PrintMore
set_option linter.unusedVariables false
set_option linter.unusedSimpArgs false
theorem b32 {x : Int} (h : (Lit.int .i32 x).wf = true) : -2147483648 ≤ x ∧ x ≤ 2147483647 := by have := bounds_i32 h; omega
set_option maxRecDepth 100000 in
theorem walk_CellRight (v0 : Value) (x0 : Int × List Int × Int × Int × Int × Int) (v1 : Value) (x1 : Int × List Int × Int × Int × Int × Int) (w : World) {base base' : Nat} (hv0 : Value.okWide Try.prog w .any base 26 v0) (hK0 : kdCell.K w x0 v0.cells.toList) (hq0 : wfCell x0)
    (hv1 : Value.okWide Try.prog w .any base' 26 v1) (hK1 : kdCell.K w x1 v1.cells.toList) (hq1 : wfCell x1) :
    Calls Try.prog 4 #[v0, v1] w fun e w' => e = .returned (.bool true) ∧ Below w.heap.size w w' := by
  obtain ⟨a, b, hx, rfl⟩ := cell_arg hv0 hK0
  obtain ⟨a', b', hx', rfl⟩ := cell_arg hv1 hK1
  obtain ⟨h0, h1, h2, -⟩ := hq0
  obtain ⟨g0, g1, g2, -⟩ := hq1
  rw [hx] at h1
  rw [hx'] at g1
  exact PCellRight.prolepsislaw05_CellRight.calls 100 _ _ _ _ _ _ _ _ _ _ _ _ _ _ true w (Pure.CellRight_true _ _ _ _ _ _ _ _ _ _ _ _ _ _ (b32 h0) (b32 (h1 a (by simp))) (b32 (h1 b (by simp))) (bounds_u8 h2) (b32 g0) (b32 (g1 a' (by simp))) (b32 (g1 b' (by simp))))
theorem own_CellRight : ownKnob Try.prog.godebug = none := by kernel_rfl
theorem laidOut_CellRight : laidOutB Try.prog = true := by kernel_rfl
set_option maxRecDepth 100000 in
theorem lifted_CellRight (os : Os) (started : os.Started) (H : Type) (enc : TypeId × Value → H) :
    ReturnsInHanded {} Try.checked os 4 .any (Rows.cellRightSpec.pre6 enc Try.prog Try.f4 Rows.cellRightRow.domain false) (Rows.cellRightSpec.post enc Try.prog Try.f4 false true false false) := by
  refine returnsInHanded_of_change (C := Try.checked) own_CellRight started (by kernel_rfl) Try.func4
    (ChangeSpec.witness6 (enc := enc) (C := Try.checked) false ⟨#[], #[.agg #[.int .i32 0, .int .i32 0, .int .i32 0, .int .u8 0, .int .u8 0, .int .u8 0, .int .u8 0], .agg #[.int .i32 0, .int .i32 0, .int .i32 0, .int .u8 0, .int .u8 0, .int .u8 0, .int .u8 0]], []⟩ 8 (by kernel_rfl) (by kernel_rfl) (by kernel_rfl) (by kernel_rfl)) ?_
  intro W base args ds gs before hval0 hW hcnd _
  have hval : ∀ (j : Nat) t v, Try.f4.params[j]? = some t → args[j]? = some v → Value.okWide Try.prog W .any base t v := hval0
  have hW' := hW
  obtain ⟨p, q, hA0, hV, rfl, hfz, hnd⟩ := hW
  have hA : DataW.TrodAll enc Try.prog W 0 (fun _ => true) true Try.f4.params.toList args.toList ds p := hA0
  rw [Try.params4] at hA hval
  obtain ⟨v0, vs0, d0, ds0, p0, q0, hargs, rfl, rfl, h0, r0⟩ := trodAll_cons hA
  obtain ⟨v1, vs1, d1, ds1, p1, q1, rfl, rfl, rfl, h1, r1⟩ := trodAll_cons r0
  obtain ⟨rfl, rfl, rfl⟩ := trodAll_nil r1
  obtain rfl : args = #[v0, v1] := by cases args; simp_all
  obtain ⟨rfl, rfl⟩ := trodVars_none hV
  have k0 := h0
  have lt0 : ∀ x ∈ p0, x.block < W.heap.size := by obtain ⟨m, hm⟩ := k0; exact DataW.trod_lt m _ _ _ hm
  obtain ⟨x0, hK0, hq0⟩ := open_any (fun {H} => @opn_Cell H) h0
  have k1 := h1
  have lt1 : ∀ x ∈ p1, x.block < W.heap.size := by obtain ⟨m, hm⟩ := k1; exact DataW.trod_lt m _ _ _ hm
  obtain ⟨x1, hK1, hq1⟩ := open_any (fun {H} => @opn_Cell H) h1
  refine (walk_CellRight v0 x0 v1 x1 W (hval 0 26 v0 rfl rfl) hK0 hq0 (hval 1 26 v1 rfl rfl) hK1 hq1).mono fun e W' ⟨he, bel⟩ => ?_
  subst he
  exact ⟨_, rfl, _, _, _, [], _, [], hW', trodAll_mk1 (shut_bool Try.underlying4 _), (trodAll_cons_mk (Below.trod laidOut_CellRight (by kernel_rfl) (of_decide_eq_true (by kernel_rfl)) k0 bel lt0) (trodAll_cons_mk (Below.trod laidOut_CellRight (by kernel_rfl) (of_decide_eq_true (by kernel_rfl)) k1 bel lt1) trodAll_mk0)), rfl, bel.frame _, fun h => by cases h⟩
/-- The row. -/
theorem CellRight_holds : Rows.CellRightSaid :=
  OpenClaim.holds_of_wide 4 Try.f4 rfl rfl rfl rfl rfl rfl rfl ⟨rfl, rfl, rfl, rfl, rfl⟩ rfl rfl rfl rfl rfl (by kernel_rfl) Try.func4 (by kernel_rfl)
    (of_decide_eq_true (by kernel_rfl)) (by unfold Func.isWrapper; first | (rw [if_pos (by decide +kernel)]; kernel_rfl) | (rw [if_neg (by decide +kernel)]; exact ⟨rfl, rfl⟩))
    (fun os started H enc _ => lifted_CellRight os started H enc)
#print axioms CellRight_holds
end Go.Proofs.Ytblcmcdifgclcaa
