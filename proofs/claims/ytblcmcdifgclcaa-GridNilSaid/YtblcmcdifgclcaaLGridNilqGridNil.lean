/- GridNil: what its proof leads to. No condition. -/
import Derived.Test.YtblcmcdifgclcaaRows
import Derived.Test.YtblcmcdifgclcaaOpnActqGridNil
import Derived.ProofKit
import Derived.OpenShut
namespace Go.Proofs.Ytblcmcdifgclcaa.Grd
open Go.ChangeShapes Go.WideShapes Go.ChangeAt Go.RowKit Go.Proofs.Ytblcmcdifgclcaa Go.Proofs.Ytblcmcdifgclcaa.PGridSame Go.Proofs.YtblcmcdifgclcaaW.PrintWords Go.Proofs.YtblcmcdifgclcaaW.PrintLast Go.Proofs.YtblcmcdifgclcaaW.PrintMore
set_option linter.unusedVariables false
set_option linter.unusedSimpArgs false
attribute [local go_sem] max2_int min2_int max_two min_two
attribute [local go_sem high] eqCellG
set_option maxRecDepth 100000 in
set_option maxHeartbeats 4000000 in
theorem walk_GridNil (v0 : Value) (x0 : TAct) (w : World) {base : Nat} (hv0 : Value.okWide Try.prog w .any base 87 v0) (hK0 : kdAct.K w x0 v0.cells.toList) (hq0 : wfAct x0) :
    Calls Try.prog 10 #[v0] w fun e w' => e = .returned (.bool true) ∧ Below w.heap.size w w' := by
  obtain ⟨A, c, rfl, -, -⟩ := act_arg hv0 hK0
  clear hv0 hK0 hq0
  obtain ⟨a, ha⟩ : ∃ a, toA x0 = a := ⟨_, rfl⟩
  rw [ha]
  clear ha
  obtain ⟨n, hn⟩ : ∃ n, a.l.length = n := ⟨_, rfl⟩
  rw [hn]
  clear hn
  go_enter Try.func10, Try.ntmps10
  go_wp2_with (first | ((with_reducible refine gate_dst (N := 1) rfl ?_); go_must (refine box_event ?hg (N := 1) ?hd (cs := #[.int .i64 a.k, .int .i64 a.r, .int .i64 a.c, .int .i64 a.t, .int .i32 a.x.f0, .int .i32 a.x.f1.f0, .int .i32 a.x.f1.f1, .int .u8 a.x.f2, .int .u8 a.x.f3.f0, .int .u8 a.x.f3.f1, .int .u8 a.x.f3.f2, .int .i32 a.m, .int .u8 a.p0, .int .u8 a.p1, .int .u8 a.p2, .slice A n c]) (t := 87) ?hr ?_); go_must ((case hd => rfl); (case hg => rfl); (case hr => first | (go_simp; done) | (go_simp; rfl))); intro g1 hg_ w1 hx_ hb_; go_must (have Q1 := Aside0.mk (QW.box (o := actB a A n c) (QW.new w) hx_ hg_ hb_)); clear hg_ hx_ hb_; obtain ⟨a0, a1, a2, a3, a4, a5, a6, a7, a8, a9, a10, a11, a12, a13, a14, a15⟩ := acells (Q1.out.bx (g1, actB a A n c) (by simp)).1) | (go_at_call 59; go_must (refine (Erase_nil _ a.r a.c a.t a.p0 a.p1 a.p2).mono ?_); rintro e w2 ⟨rfl, hb⟩; have Q2 := Aside0.mk (Q1.out.below hb); clear hb; obtain ⟨a0, a1, a2, a3, a4, a5, a6, a7, a8, a9, a10, a11, a12, a13, a14, a15⟩ := acells (Q2.out.bx (g1, actB a A n c) (by simp)).1) | (go_at_call 60; go_must (refine (Move_nil w2 a.r a.c).mono ?_); rintro e w2 ⟨rfl, rfl⟩; skip) | (go_at_call 61; go_must (refine (Scroll_nil w2 a.r a.p0 a.p1 a.p2).mono ?_); rintro e w3 ⟨rfl, hb⟩; have Q3 := Aside0.mk (Q2.out.below hb); clear hb; obtain ⟨a0, a1, a2, a3, a4, a5, a6, a7, a8, a9, a10, a11, a12, a13, a14, a15⟩ := acells (Q3.out.bx (g1, actB a A n c) (by simp)).1) | (go_at_call 62; go_must (refine (At_nil w3 a.r a.c).mono ?_); rintro e w4 ⟨rfl, hb⟩; have Q4 := Aside0.mk (Q3.out.below hb); clear hb) | ((with_reducible refine gate_dst (N := 4) rfl ?_); go_must (refine box_event ?hg (N := 4) ?hd (cs := #[.int .i32 0, .int .i32 0, .int .i32 0, .int .u8 0, .int .u8 0, .int .u8 0, .int .u8 0]) (t := 26) ?hr ?_); go_must ((case hd => rfl); (case hg => rfl); (case hr => first | (go_simp; done) | (go_simp; rfl))); intro g4 hg_ w5 hx_ hb_; go_must (have Q5 := Aside0.mk (QW.box (o := cellB zC) Q4.out hx_ hg_ hb_)); clear hg_ hx_ hb_) | ((with_reducible refine gate_store (t := 26) (p := 4) rfl ?_); go_must (refine step_whole (.tmp 4) (.tmp 37) rfl rfl rfl rfl rfl (Q5.out.bx (g4, cellB zC) (by simp)).1 rfl (by kernel_rfl) (by simp [Value.oneCell']; done) ?_); intro w6 hx_ hg_; go_must (have Q6 := Aside0.mk (QW.store (l1 := []) (l2 := [(g1, actB a A n c)]) (o' := cellB zC) Q5.out hx_ hg_)); clear hx_ hg_) | (go_at_call 63; go_must (refine (Fit_nil w6 2 2).mono ?_); rintro e w6 ⟨rfl, rfl⟩; skip) | (go_at_call 64; go_must (refine (known_any w6).mono ?_); rintro e w7 ⟨rfl, hb⟩; have Q7 := Aside0.mk (Q6.out.below hb); clear hb; obtain ⟨a0, a1, a2, a3, a4, a5, a6, a7, a8, a9, a10, a11, a12, a13, a14, a15⟩ := acells (Q7.out.bx (g1, actB a A n c) (by simp)).1; obtain ⟨c0, c1, c2, c3, c4, c5, c6⟩ := ccells (Q7.out.bx (g4, cellB zC) (by simp)).1) | (go_at_call 65; go_must (refine (Rows_nil w7).mono ?_); rintro e w7 ⟨rfl, rfl⟩; skip) | (go_at_call 66; go_must (refine (Cols_nil w7).mono ?_); rintro e w7 ⟨rfl, rfl⟩; skip) | (go_at_call 67; go_must (refine (Row_nil w7).mono ?_); rintro e w7 ⟨rfl, rfl⟩; skip) | (go_at_call 68; go_must (refine (Col_nil w7).mono ?_); rintro e w7 ⟨rfl, rfl⟩; skip) | (go_at_call 69; go_must (refine (Line_nil w7 a.r).mono ?_); rintro e w7 ⟨rfl, rfl⟩; skip) | (go_at_call 70; go_must (refine (Put_nil w7 a.r a.c a.x).mono ?_); rintro e w8 ⟨rfl, hb⟩; have Q8 := Aside0.mk (Q7.out.below hb); clear hb; obtain ⟨a0, a1, a2, a3, a4, a5, a6, a7, a8, a9, a10, a11, a12, a13, a14, a15⟩ := acells (Q8.out.bx (g1, actB a A n c) (by simp)).1) | (go_at_call 71; go_must (refine (Mark_nil w8 a.r a.c a.m).mono ?_); rintro e w9 ⟨rfl, hb⟩; have Q9 := Aside0.mk (Q8.out.below hb); clear hb; obtain ⟨a0, a1, a2, a3, a4, a5, a6, a7, a8, a9, a10, a11, a12, a13, a14, a15⟩ := acells (Q9.out.bx (g1, actB a A n c) (by simp)).1) | (go_at_call 72; go_must (refine (Lay_nil w9 a.r A n c).mono ?_); rintro e w10 ⟨rfl, hb⟩; have Q10 := Aside0.mk (Q9.out.below hb); clear hb) | (go_at_call 73; go_must (refine (Copy_nil w10).mono ?_); rintro e w10 ⟨rfl, rfl⟩; skip) | (go_at_call 74; go_must (refine (Right_nil w10).mono ?_); rintro e w10 ⟨rfl, rfl⟩; skip))
  all_goals go_ret
  all_goals exact ⟨rfl, Q10.out.hb⟩
theorem own_GridNil : ownKnob Try.prog.godebug = none := by kernel_rfl
theorem laidOut_GridNil : laidOutB Try.prog = true := by kernel_rfl
set_option maxRecDepth 100000 in
theorem lifted_GridNil (os : Os) (started : os.Started) (H : Type) (enc : TypeId × Value → H) :
    ReturnsInHanded {} Try.checked os 10 .any (Rows.gridNilSpec.pre6 enc Try.prog Try.f10 Rows.gridNilRow.domain false) (Rows.gridNilSpec.post enc Try.prog Try.f10 false true false false) := by
  refine returnsInHanded_of_change (C := Try.checked) own_GridNil started (by kernel_rfl) Try.func10
    (ChangeSpec.witness6 (enc := enc) (C := Try.checked) false ⟨#[], #[.agg #[.int .i64 0, .int .i64 0, .int .i64 0, .int .i64 0, .int .i32 0, .int .i32 0, .int .i32 0, .int .u8 0, .int .u8 0, .int .u8 0, .int .u8 0, .int .i32 0, .int .u8 0, .int .u8 0, .int .u8 0, .slice none 0 0]], []⟩ 8 (by kernel_rfl) (by kernel_rfl) (by kernel_rfl) (by kernel_rfl)) ?_
  intro W base args ds gs before hval0 hW hcnd _
  have hval : ∀ (j : Nat) t v, Try.f10.params[j]? = some t → args[j]? = some v → Value.okWide Try.prog W .any base t v := hval0
  have hW' := hW
  obtain ⟨p, q, hA0, hV, rfl, hfz, hnd⟩ := hW
  have hA : DataW.TrodAll enc Try.prog W 0 (fun _ => true) true Try.f10.params.toList args.toList ds p := hA0
  rw [Try.params10] at hA hval
  obtain ⟨v0, vs0, d0, ds0, p0, q0, hargs, rfl, rfl, h0, r0⟩ := trodAll_cons hA
  obtain ⟨rfl, rfl, rfl⟩ := trodAll_nil r0
  obtain rfl : args = #[v0] := by cases args; simp_all
  obtain ⟨rfl, rfl⟩ := trodVars_none hV
  have k0 := h0
  have lt0 : ∀ x ∈ p0, x.block < W.heap.size := by obtain ⟨m, hm⟩ := k0; exact DataW.trod_lt m _ _ _ hm
  obtain ⟨x0, hK0, hq0⟩ := open_any (fun {H} => @opn_Act H) h0
  refine (walk_GridNil v0 x0 W (hval 0 87 v0 rfl rfl) hK0 hq0).mono fun e W' ⟨he, bel⟩ => ?_
  subst he
  exact ⟨_, rfl, _, _, _, [], _, [], hW', trodAll_mk1 (shut_bool Try.underlying4 _), (trodAll_cons_mk (Below.trod laidOut_GridNil (by kernel_rfl) (of_decide_eq_true (by kernel_rfl)) k0 bel lt0) trodAll_mk0), rfl, bel.frame _, fun h => by cases h⟩
/-- The row. -/
theorem GridNil_holds : Rows.GridNilSaid :=
  OpenClaim.holds_of_wide 10 Try.f10 rfl rfl rfl rfl rfl rfl rfl ⟨rfl, rfl, rfl, rfl, rfl⟩ rfl rfl rfl rfl rfl (by kernel_rfl) Try.func10 (by kernel_rfl)
    (of_decide_eq_true (by kernel_rfl)) (by unfold Func.isWrapper; first | (rw [if_pos (by decide +kernel)]; kernel_rfl) | (rw [if_neg (by decide +kernel)]; exact ⟨rfl, rfl⟩))
    (fun os started H enc _ => lifted_GridNil os started H enc)
#print axioms GridNil_holds
end Go.Proofs.Ytblcmcdifgclcaa.Grd
