/- KeygramTells: what its proof leads to. No condition. -/
import Derived.Test.YtpephndecdkfhaaNumSqKeygramTells
import Derived.Test.YtpephndecdkfhaaLitqKeygramTells
import Derived.Lib.SliceRun
namespace Go.Proofs.Ytpephndecdkfhaa
open Go.RowKit Go.Proofs.YtpephndecdkfhaaW.PrintWords Go.Proofs.YtpephndecdkfhaaW.PrintLast Go.Proofs.YtpephndecdkfhaaW.PrintMore
set_option linter.unusedVariables false
set_option linter.unusedSimpArgs false

set_option maxRecDepth 100000 in
set_option maxHeartbeats 400000 in
theorem CloneB_any (A : Option Addr) (c : Nat) (l : List Int) (w : World) (hC : Kd.C (Kd.int .u8) w A l.length l) (hlen : l.length ≤ 140737488355328) :
    Calls Try.prog 63 #[.slice A l.length c] w fun r w' => ∃ v, r = .returned v ∧ Kd.R (Kd.int .u8) 5 w' w.heap.size (fun _ => True) v l ∧ Below w.heap.size w w' := by
  have HB := Aside0.mk (Below.refl w.heap.size w)
  rcases A with _ | ad
  · have hl0 : l = [] := by
      rcases Nat.eq_zero_or_pos l.length with h | h
      · exact List.eq_nil_of_length_eq_zero h
      · obtain ⟨ad, h', _⟩ := hC.2.2 h; cases h'
    have hq := Lib.run_eql_slice_nil (P := Try.prog) w 27 5 none l.length c 0 0 Try.underlying27
    have HL := Aside0.mk hl0
    clear hC hl0
    simp at hq
    go_enter Try.func63, Try.ntmps63
    go_wp2
    go_ret
    exact ⟨_, rfl, by rw [HL.out]; exact Kd.R_nil _ _ _ _ _, Below.refl _ _⟩
  · have hq := Lib.run_eql_slice_nil (P := Try.prog) w 27 5 (some ad) l.length c 0 0 Try.underlying27
    simp at hq
    have HC := Aside0.mk hC
    clear hC
    have HO := Aside0.mk (R_lit_int .u8 (W := w) w.heap.size 5 [] (Nat.le_refl _) (by simp))
    go_enter Try.func63, Try.ntmps63
    go_wp2_with (first | (at_builtin; refine Kd.R_append_rows (Kd.int .u8) (w0 := w) w.heap.size rfl (.tmp 5) (.tmp 6) 27 5 (.int .u8 0) 1 rfl Try.underlying27 info5 rfl (by decide) (by omega) _ ([] : List Int) l _ _ _ (fun _ => True) (fun _ => False) rfl rfl ?aO ?aR (fun _ _ h => h) (fun _ h => h.elim) (fun _ _ => trivial) ?aB ?aS ?aL ?_; (case aO => exact HO.out); (case aR => exact C_below0 HC.out (below_alloc (Below.refl _ _) _)); (case aB => exact (by repeat (first | (with_reducible first | exact HB.out | apply below_alloc | apply pw_below_drewN | apply below_drew1) | exact HB.out))); (case aS => simp); (case aL => simp; omega); intro vq wq ho hb hg hat; have HX := Aside0.mk (And.intro ho hb); clear ho hb hg hat))
    go_ret
    exact ⟨_, rfl, HX.out.1, HX.out.2⟩
end Go.Proofs.Ytpephndecdkfhaa
