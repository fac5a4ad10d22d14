/- NumSums holds: for any two 64-bit numbers sums and differences stay within bounds, as the document says. No condition. -/
import Derived.Test.YtjomlpogdemgpaaRows
import Derived.Test.YtjomlpogdemgpaaNumKnown
import Derived.ProofKit
import Derived.OpenShut
namespace Go.Proofs.Ytjomlpogdemgpaa
open Go.ChangeShapes Go.WideShapes Go.ChangeAt Go.RowKit Go.Proofs.YtjomlpogdemgpaaW.PrintWords Go.Proofs.YtjomlpogdemgpaaW.PrintLast Go.Proofs.YtjomlpogdemgpaaW.PrintMore
set_option linter.unusedVariables false
set_option linter.unusedSimpArgs false

theorem wf_u64 {n : Int} (h : (Lit.int .u64 n).wf = true) : 0 ≤ n ∧ n < 18446744073709551616 := by
  simp [Lit.wf, IntKind.min, IntKind.max, IntKind.bits, IntKind.signed] at h
  omega

set_option maxRecDepth 100000 in
set_option maxHeartbeats 1000000 in
theorem walk_NumSums (a b : Int) (w : World) (ha : (Lit.int .u64 a).wf = true) (hb : (Lit.int .u64 b).wf = true) :
    Calls Try.prog 3 #[.int .u64 a, .int .u64 b] w fun r w' => r = .returned (.bool true) ∧ Below w.heap.size w w' := by
  obtain ⟨a0, a1⟩ := wf_u64 ha
  obtain ⟨b0, b1⟩ := wf_u64 hb
  have HA := fun w => Aside0.mk (Add_any a b w a0 a1 b0 b1)
  have HA2 := fun w => Aside0.mk (Add_any b a w b0 b1 a0 a1)
  have HS := fun w => Aside0.mk (Sub_any a b w a0 a1 b0 b1)
  have HrA := fun w => Aside0.mk (rAdd_any a b w a0 a1 b0 b1)
  have HrS := fun w => Aside0.mk (rSub_any a b w a0 a1 b0 b1)
  have hco : addN b a = addN a b := by unfold addN; rw [Int.add_comm]
  rw [hco] at HA2
  have k1 : decide (a ≤ addN a b) = true := decide_eq_true (by unfold addN; split <;> omega)
  have k2 : decide (b ≤ addN a b) = true := decide_eq_true (by unfold addN; split <;> omega)
  have k3 : decide (subN a b ≤ a) = true := decide_eq_true (by unfold subN; split <;> omega)
  clear hco a0 a1 b0 b1 ha hb
  generalize addN a b = s at *
  generalize subN a b = d at *
  replace HA := Aside0.mk HA
  replace HA2 := Aside0.mk HA2
  replace HS := Aside0.mk HS
  replace HrA := Aside0.mk HrA
  replace HrS := Aside0.mk HrS
  go_enter Try.func3, Try.ntmps3
  go_wp2_with (first | (go_at_call 13; first | ((with_reducible refine ((HA.out _).out).mono ?_); rintro r w1 ⟨rfl, rfl⟩) | ((with_reducible refine ((HA2.out _).out).mono ?_); rintro r w1 ⟨rfl, rfl⟩)) | (go_at_call 14; refine ((HS.out _).out).mono ?_; rintro r w1 ⟨rfl, rfl⟩) | (go_at_call 16; refine ((HrA.out _).out).mono ?_; rintro r w1 ⟨rfl, rfl⟩) | (go_at_call 17; refine ((HrS.out _).out).mono ?_; rintro r w1 ⟨rfl, rfl⟩) | (go_at_call 15; refine (known_any _).mono ?_; rintro r w1 ⟨rfl, hb⟩; have HX := Aside0.mk hb; clear hb))
  go_ret
  exact ⟨rfl, HX.out⟩

theorem own_NumSums : ownKnob Try.prog.godebug = none := by kernel_rfl
theorem laidOut_NumSums : laidOutB Try.prog = true := by kernel_rfl
set_option maxRecDepth 100000 in
theorem lifted_NumSums (os : Os) (started : os.Started) (H : Type) (enc : TypeId × Value → H) :
    ReturnsInHanded {} Try.checked os 3 .any (Rows.numSumsSpec.pre6 enc Try.prog Try.f3 Rows.numSumsRow.domain false) (Rows.numSumsSpec.post enc Try.prog Try.f3 false true false false) := by
  refine returnsInHanded_of_change (C := Try.checked) own_NumSums started (by kernel_rfl) Try.func3
    (ChangeSpec.witness6 (enc := enc) (C := Try.checked) false ⟨#[], #[.int .u64 0, .int .u64 0], []⟩ 8 (by kernel_rfl) (by kernel_rfl) (by kernel_rfl) (by kernel_rfl)) ?_
  intro W base args ds gs before hval0 hW hcnd _
  have hval : ∀ (j : Nat) t v, Try.f3.params[j]? = some t → args[j]? = some v → Value.okWide Try.prog W .any base t v := hval0
  have hW' := hW
  obtain ⟨p, q, hA0, hV, rfl, hfz, hnd⟩ := hW
  have hA : DataW.TrodAll enc Try.prog W 0 (fun _ => true) true Try.f3.params.toList args.toList ds p := hA0
  rw [Try.params3] at hA hval
  obtain ⟨v0, vs0, d0, ds0, p0, q0, hargs, rfl, rfl, h0, r0⟩ := trodAll_cons hA
  obtain ⟨v1, vs1, d1, ds1, p1, q1, rfl, rfl, rfl, h1, r1⟩ := trodAll_cons r0
  obtain ⟨rfl, rfl, rfl⟩ := trodAll_nil r1
  obtain rfl : args = #[v0, v1] := by cases args; simp_all
  obtain ⟨rfl, rfl⟩ := trodVars_none hV
  obtain ⟨a0, rfl, rfl, rfl, w0⟩ := open_int Try.underlying22 (hval 0 22 v0 rfl rfl) h0
  obtain ⟨a1, rfl, rfl, rfl, w1⟩ := open_int Try.underlying22 (hval 1 22 v1 rfl rfl) h1
  simp only [List.append_nil] at hW'
  refine (walk_NumSums a0 a1 W w0 w1).mono fun e W' ⟨he, bel⟩ => ?_
  subst he
  exact ⟨_, rfl, _, _, _, [], _, [], hW', trodAll_mk1 (shut_bool Try.underlying4 _), (trodAll_cons_mk (shut_int Try.underlying22 w0) (trodAll_cons_mk (shut_int Try.underlying22 w1) trodAll_mk0)), rfl, bel.frame _, fun h => by cases h⟩
/-- The row. -/
theorem NumSums_holds : Rows.NumSumsSaid :=
  OpenClaim.holds_of_wide 3 Try.f3 rfl rfl rfl rfl rfl rfl rfl ⟨rfl, rfl, rfl, rfl, rfl⟩ rfl rfl rfl rfl rfl (by kernel_rfl) Try.func3 (by kernel_rfl)
    (of_decide_eq_true (by kernel_rfl)) (by unfold Func.isWrapper; first | (rw [if_pos (by decide +kernel)]; kernel_rfl) | (rw [if_neg (by decide +kernel)]; exact ⟨rfl, rfl⟩))
    (fun os started H enc _ => lifted_NumSums os started H enc)
#print axioms NumSums_holds
end Go.Proofs.Ytjomlpogdemgpaa
