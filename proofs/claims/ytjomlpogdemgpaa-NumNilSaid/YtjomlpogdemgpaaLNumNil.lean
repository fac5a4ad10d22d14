/- NumNil holds: a nil reader takes nothing, for any number that is asked. No condition. -/
import Derived.Test.YtjomlpogdemgpaaRows
import Derived.Test.YtjomlpogdemgpaaNumKnown
import Derived.Test.YtjomlpogdemgpaaOpn
import Derived.ProofKit
import Derived.OpenShut
namespace Go.Proofs.Ytjomlpogdemgpaa
open Go.ChangeShapes Go.WideShapes Go.ChangeAt Go.RowKit Go.Proofs.YtjomlpogdemgpaaW.PrintWords Go.Proofs.YtjomlpogdemgpaaW.PrintLast Go.Proofs.YtjomlpogdemgpaaW.PrintMore
set_option linter.unusedVariables false
set_option linter.unusedSimpArgs false
set_option maxRecDepth 100000 in
set_option maxHeartbeats 1000000 in
theorem walk_NumNil (n : Int) (w : World) (hn : (Lit.int .i64 n).wf = true) :
    Calls Try.prog 9 #[.int .i64 n] w fun r w' => r = .returned (.bool true) ∧ Below w.heap.size w w' := by
  clear hn
  go_enter Try.func9, Try.ntmps9
  go_wp2_with (first | (go_at_call 39; refine (Fail_nil _ _).mono ?_; rintro r w1 ⟨rfl, rfl⟩) | (go_at_call 15; refine (known_any _).mono ?_; rintro r w1 ⟨rfl, hb⟩; have HX := Aside0.mk hb; clear hb) | (go_at_call 33; refine (Number_nil _).mono ?_; rintro r w2 ⟨rfl, rfl⟩) | (go_at_call 35; refine (Upto_nil _ _).mono ?_; rintro r w2 ⟨rfl, hb⟩; have HY := Aside0.mk (below_step HX.out hb); clear hb) | (go_at_call 36; refine (Some_nil _ _).mono ?_; rintro r w3 ⟨rfl, hb⟩; have HZ := Aside0.mk (below_step HY.out hb); clear hb) | (go_at_call 38; refine (Take_nil _ _).mono ?_; rintro r w4 ⟨rfl, rfl⟩) | (go_at_call 41; refine (Err_nil _).mono ?_; rintro r w5 ⟨rfl, rfl⟩) | (go_at_call 42; refine (At_nil _).mono ?_; rintro r w6 ⟨rfl, rfl⟩) | (go_at_call 43; refine (Done_nil _).mono ?_; rintro r w7 ⟨rfl, rfl⟩))
  go_ret
  exact ⟨rfl, HZ.out⟩

theorem own_NumNil : ownKnob Try.prog.godebug = none := by kernel_rfl
theorem laidOut_NumNil : laidOutB Try.prog = true := by kernel_rfl
set_option maxRecDepth 100000 in
theorem lifted_NumNil (os : Os) (started : os.Started) (H : Type) (enc : TypeId × Value → H) :
    ReturnsInHanded {} Try.checked os 9 .any (Rows.numNilSpec.pre6 enc Try.prog Try.f9 Rows.numNilRow.domain false) (Rows.numNilSpec.post enc Try.prog Try.f9 false true false false) := by
  refine returnsInHanded_of_change (C := Try.checked) own_NumNil started (by kernel_rfl) Try.func9
    (ChangeSpec.witness6 (enc := enc) (C := Try.checked) false ⟨#[], #[.int .i64 0], []⟩ 8 (by kernel_rfl) (by kernel_rfl) (by kernel_rfl) (by kernel_rfl)) ?_
  intro W base args ds gs before hval0 hW hcnd _
  have hval : ∀ (j : Nat) t v, Try.f9.params[j]? = some t → args[j]? = some v → Value.okWide Try.prog W .any base t v := hval0
  have hW' := hW
  obtain ⟨p, q, hA0, hV, rfl, hfz, hnd⟩ := hW
  have hA : DataW.TrodAll enc Try.prog W 0 (fun _ => true) true Try.f9.params.toList args.toList ds p := hA0
  rw [Try.params9] at hA hval
  obtain ⟨v0, vs0, d0, ds0, p0, q0, hargs, rfl, rfl, h0, r0⟩ := trodAll_cons hA
  obtain ⟨rfl, rfl, rfl⟩ := trodAll_nil r0
  obtain rfl : args = #[v0] := by cases args; simp_all
  obtain ⟨rfl, rfl⟩ := trodVars_none hV
  obtain ⟨a0, rfl, rfl, rfl, w0⟩ := open_int Try.underlying3 (hval 0 3 v0 rfl rfl) h0
  simp only [List.append_nil] at hW'
  refine (walk_NumNil a0 W w0).mono fun e W' ⟨he, bel⟩ => ?_
  subst he
  exact ⟨_, rfl, _, _, _, [], _, [], hW', trodAll_mk1 (shut_bool Try.underlying4 _), (trodAll_cons_mk (shut_int Try.underlying3 w0) trodAll_mk0), rfl, bel.frame _, fun h => by cases h⟩
/-- The row. -/
theorem NumNil_holds : Rows.NumNilSaid :=
  OpenClaim.holds_of_wide 9 Try.f9 rfl rfl rfl rfl rfl rfl rfl ⟨rfl, rfl, rfl, rfl, rfl⟩ rfl rfl rfl rfl rfl (by kernel_rfl) Try.func9 (by kernel_rfl)
    (of_decide_eq_true (by kernel_rfl)) (by unfold Func.isWrapper; first | (rw [if_pos (by decide +kernel)]; kernel_rfl) | (rw [if_neg (by decide +kernel)]; exact ⟨rfl, rfl⟩))
    (fun os started H enc _ => lifted_NumNil os started H enc)
#print axioms NumNil_holds
end Go.Proofs.Ytjomlpogdemgpaa
