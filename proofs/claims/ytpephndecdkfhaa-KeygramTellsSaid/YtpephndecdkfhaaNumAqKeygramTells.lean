/- KeygramTells: what its proof leads to. No condition. -/
import Derived.Test.YtpephndecdkfhaaRows
import Derived.Test.YtpephndecdkfhaaWMoreqKeygramTells
import Derived.WalkKit
import Derived.WalkSpells
import Derived.WalkLawsBesides
import Derived.ScopeJumps
namespace Go.Proofs.Ytpephndecdkfhaa
open Go.RowKit Go.Proofs.YtpephndecdkfhaaW.PrintWords Go.Proofs.YtpephndecdkfhaaW.PrintLast Go.Proofs.YtpephndecdkfhaaW.PrintMore
set_option linter.unusedVariables false
set_option linter.unusedSimpArgs false

/-- A reader at block g: what is left, how many were taken, the error; its bytes came in by w0. -/
def Rd (w0 W : World) (g : Nat) (l : List Int) (t e : Int) : Prop :=
  ∃ A c, W.heap[g]? = some (.cells #[.slice A l.length c, .int .i64 t, .int .i64 e] 96 (0, 0)) ∧ w0.heap.size ≤ g ∧ l.length ≤ c ∧ Kd.C (Kd.int .u8) w0 A l.length l

set_option maxHeartbeats 400000 in
theorem Err_at (w0 w : World) (g : Nat) (l : List Int) (t e : Int) (h : Rd w0 w g l t e) :
    Calls Try.prog 35 #[.pointer (some ⟨g, 0, none⟩)] w fun r w' => r = .returned (.int .i64 e) ∧ w' = w := by
  obtain ⟨A, c, hb, h0, hc, hC⟩ := h
  have c2 := blk_cell hb 2
  simp at c2
  clear hb
  go_enter Try.func35, Try.ntmps35
  go_wp2
  go_ret
  exact ⟨rfl, rfl⟩

end Go.Proofs.Ytpephndecdkfhaa
