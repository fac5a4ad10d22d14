/- GridNil: what its proof leads to. No condition. -/
import Derived.Test.YtblcmcdifgclcaaWidDqGridNil
namespace Go.Proofs.Ytblcmcdifgclcaa
open Go.RowKit Go.Proofs.YtblcmcdifgclcaaW.PrintWords Go.Proofs.YtblcmcdifgclcaaW.PrintLast Go.Proofs.YtblcmcdifgclcaaW.PrintMore
theorem Of_any (r : Int) (w : World) : Calls Try.prog 84 #[.int .i32 r] w fun x w' => x = .returned (.int .i64 (wOf r)) ∧ Below w.heap.size w w' := by
  by_cases h : r < 32 ∨ (127 ≤ r ∧ r ≤ 159) ∨ scalarZ r = false
  · exact Of_out r w (by unfold wOf; rw [if_pos h])
  · refine Of_in' r w _ _ (decide_eq_false (by omega)) rfl rfl (by cases hz : scalarZ r <;> simp_all) ?_
    by_cases a : 127 ≤ r
    · right; exact decide_eq_false (by omega)
    · left; exact decide_eq_false a
/-- A scope, where nothing jumps out of it. -/
theorem wp_scope_same {P : Program} {a : Act} {w : World} {Q : Exit → Act → World → Prop} {c : Code} (hQ : ∀ l a w, Q (.goto l) a w → False) (h : c.wp P Q a w) : (Code.scope c).wp P Q a w := by
  intro b k cs
  obtain ⟨e, a₁, w₁, hq, harr⟩ := h b (.inScope c :: k) cs
  cases e with
  | normal => exact ⟨.normal, a₁, w₁, hq, .head step_scope (Steps.trans harr (.one step_inScope))⟩
  | exit id => exact ⟨.exit id, a₁, w₁, hq, fun k' hk => .head step_scope (harr k' (by simp [exitTo, hk]))⟩
  | goto l' => exact absurd hq (fun h => hQ _ _ _ h)
  | ret => exact ⟨_, a₁, w₁, hq, .of_steps (.one step_scope) harr⟩
  | panic ch => exact ⟨_, a₁, w₁, hq, .of_steps (.one step_scope) harr⟩
  | outgrown => exact ⟨_, a₁, w₁, hq, .of_steps (.one step_scope) harr⟩
end Go.Proofs.Ytblcmcdifgclcaa
