/- KeygramTells: what its proof leads to. No condition. -/
import Derived.Test.YtpephndecdkfhaaRows
import Derived.Test.YtpephndecdkfhaaOpnGramqKeygramTells
import Derived.Test.YtpephndecdkfhaaPureKeygramTellsqKeygramTells
import Derived.Test.YtpephndecdkfhaaPKeygramTellsLqKeygramTells
import Derived.ProofKit
import Derived.OpenShut
namespace Go.Proofs.Ytpephndecdkfhaa
open Go.ChangeShapes Go.WideShapes Go.ChangeAt Go.RowKit Go.Proofs.YtpephndecdkfhaaW.PrintWords Go.Proofs.YtpephndecdkfhaaW.PrintLast Go.Proofs.YtpephndecdkfhaaW.PrintMore Go.Proofs.Ytpephndecdkfhaa.PKeygramTells
set_option linter.unusedVariables false
set_option linter.unusedSimpArgs false
set_option maxRecDepth 100000 in
theorem walk_KeygramTells (v0 : Value) (x0 : Int × Int × Int × Int × Int × List (List Int)) (v1 : Value) (x1 : Int × Int × Int × Int × Int × List (List Int)) (n : Int) (w : World) {base0 : Nat} {base1 : Nat}
    (hv0 : Value.okWide Try.prog w .any base0 66 v0) (hK0 : kdGram.K w x0 v0.cells.toList) (hq0 : wfGram x0) (hv1 : Value.okWide Try.prog w .any base1 66 v1) (hK1 : kdGram.K w x1 v1.cells.toList) (hq1 : wfGram x1) (h2 : (Lit.int .u64 n).wf = true) :
    Calls Try.prog 12 #[v0, v1, .int .u64 n] w fun e w' => e = .returned (.bool true) ∧ Below w.heap.size w w' := by
  obtain ⟨A, c, rfl, hc, hC⟩ := gram_arg hv0 hK0
  obtain ⟨A', c', rfl, hc', hC'⟩ := gram_arg hv1 hK1
  have hm := hC.2.1
  have hm' := hC'.2.1
  have b1 := bounds_u64 hq0.1
  have b2 := bounds_u64 hq0.2.1
  have b5 := bounds_u64 hq0.2.2.2.2.1
  have b8 := bounds_u64 h2
  exact prolepsislaw14_KeygramTells.calls 2000 _ _ _ _ _ A c _ _ _ _ _ _ A' c' _ n true w hC hc hC' hc' (Pure.KeygramTells_true _ _ _ _ _ _ _ _ _ _ _ _ n (by omega) (by omega) (by omega) (fun k hk x hx => by have := bounds_u8 (hq0.2.2.2.2.2 k hk x hx); omega) hm hm' (by omega)) rfl
theorem own_KeygramTells : ownKnob Try.prog.godebug = none := by kernel_rfl
theorem laidOut_KeygramTells : laidOutB Try.prog = true := by kernel_rfl
set_option maxRecDepth 100000 in
theorem lifted_KeygramTells (os : Os) (started : os.Started) (H : Type) (enc : TypeId × Value → H) :
    ReturnsInHanded {} Try.checked os 12 .any (Rows.keygramTellsSpec.pre6 enc Try.prog Try.f12 Rows.keygramTellsRow.domain false) (Rows.keygramTellsSpec.post enc Try.prog Try.f12 false true false false) := by
  refine returnsInHanded_of_change (C := Try.checked) own_KeygramTells started (by kernel_rfl) Try.func12
    (ChangeSpec.witness6 (enc := enc) (C := Try.checked) false ⟨#[], #[.agg #[.int .u64 0, .int .u64 0, .int .i64 0, .int .i64 0, .int .u64 0, .slice none 0 0], .agg #[.int .u64 0, .int .u64 0, .int .i64 0, .int .i64 0, .int .u64 0, .slice none 0 0], .int .u64 0], []⟩ 8 (by kernel_rfl) (by kernel_rfl) (by kernel_rfl) (by kernel_rfl)) ?_
  intro W base args ds gs before hval0 hW hcnd _
  have hval : ∀ (j : Nat) t v, Try.f12.params[j]? = some t → args[j]? = some v → Value.okWide Try.prog W .any base t v := hval0
  have hW' := hW
  obtain ⟨p, q, hA0, hV, rfl, hfz, hnd⟩ := hW
  have hA : DataW.TrodAll enc Try.prog W 0 (fun _ => true) true Try.f12.params.toList args.toList ds p := hA0
  rw [Try.params12] at hA hval
  obtain ⟨v0, vs0, d0, ds0, p0, q0, hargs, rfl, rfl, h0, r0⟩ := trodAll_cons hA
  obtain ⟨v1, vs1, d1, ds1, p1, q1, rfl, rfl, rfl, h1, r1⟩ := trodAll_cons r0
  obtain ⟨v2, vs2, d2, ds2, p2, q2, rfl, rfl, rfl, h2, r2⟩ := trodAll_cons r1
  obtain ⟨rfl, rfl, rfl⟩ := trodAll_nil r2
  obtain rfl : args = #[v0, v1, v2] := by cases args; simp_all
  obtain ⟨rfl, rfl⟩ := trodVars_none hV
  have k0 := h0
  have lt0 : ∀ x ∈ p0, x.block < W.heap.size := by obtain ⟨m, hm⟩ := k0; exact DataW.trod_lt m _ _ _ hm
  obtain ⟨x0, hK0, hq0⟩ := open_any (fun {H} => @opn_Gram H) h0
  have k1 := h1
  have lt1 : ∀ x ∈ p1, x.block < W.heap.size := by obtain ⟨m, hm⟩ := k1; exact DataW.trod_lt m _ _ _ hm
  obtain ⟨x1, hK1, hq1⟩ := open_any (fun {H} => @opn_Gram H) h1
  obtain ⟨a2, rfl, rfl, rfl, w2⟩ := open_int Try.underlying22 (hval 2 22 v2 rfl rfl) h2
  refine (walk_KeygramTells v0 x0 v1 x1 a2 W (hval 0 66 v0 rfl rfl) hK0 hq0 (hval 1 66 v1 rfl rfl) hK1 hq1 w2).mono fun e W' ⟨he, bel⟩ => ?_
  subst he
  exact ⟨_, rfl, _, _, _, [], _, [], hW', trodAll_mk1 (shut_bool Try.underlying4 _), (trodAll_cons_mk (Below.trod laidOut_KeygramTells (by kernel_rfl) (of_decide_eq_true (by kernel_rfl)) k0 bel lt0) (trodAll_cons_mk (Below.trod laidOut_KeygramTells (by kernel_rfl) (of_decide_eq_true (by kernel_rfl)) k1 bel lt1) (trodAll_cons_mk (shut_int Try.underlying22 w2) trodAll_mk0))), rfl, bel.frame _, fun h => by cases h⟩
/-- The row. -/
theorem KeygramTells_holds : Rows.KeygramTellsSaid :=
  OpenClaim.holds_of_wide 12 Try.f12 rfl rfl rfl rfl rfl rfl rfl ⟨rfl, rfl, rfl, rfl, rfl⟩ rfl rfl rfl rfl rfl (by kernel_rfl) Try.func12 (by kernel_rfl)
    (of_decide_eq_true (by kernel_rfl)) (by unfold Func.isWrapper; first | (rw [if_pos (by decide +kernel)]; kernel_rfl) | (rw [if_neg (by decide +kernel)]; exact ⟨rfl, rfl⟩))
    (fun os started H enc _ => lifted_KeygramTells os started H enc)
#print axioms KeygramTells_holds
end Go.Proofs.Ytpephndecdkfhaa
