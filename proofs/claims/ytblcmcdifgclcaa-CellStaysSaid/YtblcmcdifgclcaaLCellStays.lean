/- CellStays holds: what is made of what is right is right; a right cell's runes are one cluster of its width, if it has some. No condition. -/
import Derived.Test.YtblcmcdifgclcaaRows
import Derived.Test.YtblcmcdifgclcaaOpnCell
import Derived.Test.YtblcmcdifgclcaaPureCellStays
import Derived.ProofKit
import Derived.OpenShut
namespace Go.Proofs.Ytblcmcdifgclcaa
open Go.ChangeShapes Go.WideShapes Go.ChangeAt Go.RowKit Go.Proofs.YtblcmcdifgclcaaW.PrintWords Go.Proofs.YtblcmcdifgclcaaW.PrintLast Go.Proofs.YtblcmcdifgclcaaW.PrintMore
set_option linter.unusedVariables false
set_option linter.unusedSimpArgs false
set_option maxRecDepth 100000 in
theorem walk_CellStays (v0 : Value) (x0 : Int × List Int × Int × Int × Int × Int) (r : Int) (v2 : Value) (x2 : Int × Int × Int) (w : World) {base base' : Nat} (hv0 : Value.okWide Try.prog w .any base 26 v0) (hK0 : kdCell.K w x0 v0.cells.toList) (hq0 : wfCell x0) (hr : (Lit.int .i32 r).wf = true)
    (hv2 : Value.okWide Try.prog w .any base' 24 v2) (hK2 : kdPen.K w x2 v2.cells.toList) (hq2 : wfPen x2) :
    Calls Try.prog 5 #[v0, .int .i32 r, v2] w fun e w' => e = .returned (.bool true) ∧ Below w.heap.size w w' := by
  obtain ⟨a, b, hx, rfl⟩ := cell_arg hv0 hK0
  rw [pen_arg hv2 hK2]
  obtain ⟨-, -, h2, -⟩ := hq0
  exact PCellStays.prolepsislaw05_CellStays.calls 51 _ _ _ _ _ _ _ _ _ _ _ true w (Pure.CellStays_true _ _ _ _ _ _ _ _ _ _ _ (bounds_u8 h2)) rfl
theorem own_CellStays : ownKnob Try.prog.godebug = none := by kernel_rfl
theorem laidOut_CellStays : laidOutB Try.prog = true := by kernel_rfl
set_option maxRecDepth 100000 in
theorem lifted_CellStays (os : Os) (started : os.Started) (H : Type) (enc : TypeId × Value → H) :
    ReturnsInHanded {} Try.checked os 5 .any (Rows.cellStaysSpec.pre6 enc Try.prog Try.f5 Rows.cellStaysRow.domain false) (Rows.cellStaysSpec.post enc Try.prog Try.f5 false true false false) := by
  refine returnsInHanded_of_change (C := Try.checked) own_CellStays started (by kernel_rfl) Try.func5
    (ChangeSpec.witness6 (enc := enc) (C := Try.checked) false ⟨#[], #[.agg #[.int .i32 0, .int .i32 0, .int .i32 0, .int .u8 0, .int .u8 0, .int .u8 0, .int .u8 0], .int .i32 0, .agg #[.int .u8 0, .int .u8 0, .int .u8 0]], []⟩ 8 (by kernel_rfl) (by kernel_rfl) (by kernel_rfl) (by kernel_rfl)) ?_
  intro W base args ds gs before hval0 hW hcnd _
  have hval : ∀ (j : Nat) t v, Try.f5.params[j]? = some t → args[j]? = some v → Value.okWide Try.prog W .any base t v := hval0
  have hW' := hW
  obtain ⟨p, q, hA0, hV, rfl, hfz, hnd⟩ := hW
  have hA : DataW.TrodAll enc Try.prog W 0 (fun _ => true) true Try.f5.params.toList args.toList ds p := hA0
  rw [Try.params5] at hA hval
  obtain ⟨v0, vs0, d0, ds0, p0, q0, hargs, rfl, rfl, h0, r0⟩ := trodAll_cons hA
  obtain ⟨v1, vs1, d1, ds1, p1, q1, rfl, rfl, rfl, h1, r1⟩ := trodAll_cons r0
  obtain ⟨v2, vs2, d2, ds2, p2, q2, rfl, rfl, rfl, h2, r2⟩ := trodAll_cons r1
  obtain ⟨rfl, rfl, rfl⟩ := trodAll_nil r2
  obtain rfl : args = #[v0, v1, v2] := by cases args; simp_all
  obtain ⟨rfl, rfl⟩ := trodVars_none hV
  have k0 := h0
  have lt0 : ∀ x ∈ p0, x.block < W.heap.size := by obtain ⟨m, hm⟩ := k0; exact DataW.trod_lt m _ _ _ hm
  obtain ⟨x0, hK0, hq0⟩ := open_any (fun {H} => @opn_Cell H) h0
  obtain ⟨a1, rfl, rfl, rfl, w1⟩ := open_int Try.underlying21 (hval 1 21 v1 rfl rfl) h1
  have k2 := h2
  have lt2 : ∀ x ∈ p2, x.block < W.heap.size := by obtain ⟨m, hm⟩ := k2; exact DataW.trod_lt m _ _ _ hm
  obtain ⟨x2, hK2, hq2⟩ := open_any (fun {H} => @opn_Pen H) h2
  refine (walk_CellStays v0 x0 a1 v2 x2 W (hval 0 26 v0 rfl rfl) hK0 hq0 w1 (hval 2 24 v2 rfl rfl) hK2 hq2).mono fun e W' ⟨he, bel⟩ => ?_
  subst he
  exact ⟨_, rfl, _, _, _, [], _, [], hW', trodAll_mk1 (shut_bool Try.underlying4 _), (trodAll_cons_mk (Below.trod laidOut_CellStays (by kernel_rfl) (of_decide_eq_true (by kernel_rfl)) k0 bel lt0) (trodAll_cons_mk (shut_int Try.underlying21 w1) (trodAll_cons_mk (Below.trod laidOut_CellStays (by kernel_rfl) (of_decide_eq_true (by kernel_rfl)) k2 bel lt2) trodAll_mk0))), rfl, bel.frame _, fun h => by cases h⟩
/-- The row. -/
theorem CellStays_holds : Rows.CellStaysSaid :=
  OpenClaim.holds_of_wide 5 Try.f5 rfl rfl rfl rfl rfl rfl rfl ⟨rfl, rfl, rfl, rfl, rfl⟩ rfl rfl rfl rfl rfl (by kernel_rfl) Try.func5 (by kernel_rfl)
    (of_decide_eq_true (by kernel_rfl)) (by unfold Func.isWrapper; first | (rw [if_pos (by decide +kernel)]; kernel_rfl) | (rw [if_neg (by decide +kernel)]; exact ⟨rfl, rfl⟩))
    (fun os started H enc _ => lifted_CellStays os started H enc)
#print axioms CellStays_holds
end Go.Proofs.Ytblcmcdifgclcaa
