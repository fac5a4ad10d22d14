/- key.Word and key.Moves: the walks. -/
import Derived.Test.YtglcopljhanhmaaKeyE
namespace Go.Proofs.Ytglcopljhanhmaa
open Go.RowKit Go.Proofs.YtglcopljhanhmaaW.PrintWords Go.Proofs.YtglcopljhanhmaaW.PrintLast Go.Proofs.YtglcopljhanhmaaW.PrintMore
set_option linter.unusedVariables false
set_option linter.unusedSimpArgs false
/-- A kind's word. -/
def wordK (k : Int) : List Int := if k = 1 then [112, 114, 105, 110, 116] else if k = 2 then [98, 97, 99, 107] else if k = 3 then [108, 101, 102, 116] else if k = 4 then [114, 105, 103, 104, 116] else if k = 5 then [117, 112] else if k = 6 then [100, 111, 119, 110] else if k = 7 then [114, 101, 116, 117, 114, 110] else if k = 8 then [111, 116, 104, 101, 114] else []
set_option maxHeartbeats 4000000 in
set_option maxRecDepth 100000 in
theorem Word_walk (k : Int) (s : ByteArray) (w : World) (hs : strOfNums (wordK k) = s) : Calls Try.prog 53 #[.int .i64 k] w fun e w' => e = .returned (.string s) ∧ Below w.heap.size w w' := by
  by_cases h : 0 ≤ k ∧ k ≤ 8
  · have hk : k = 0 ∨ k = 1 ∨ k = 2 ∨ k = 3 ∨ k = 4 ∨ k = 5 ∨ k = 6 ∨ k = 7 ∨ k = 8 := by omega
    clear h
    rcases hk with rfl | rfl | rfl | rfl | rfl | rfl | rfl | rfl | rfl
    all_goals subst hs
    all_goals go_enter Try.func53, Try.ntmps53
    all_goals go_wp2
    all_goals go_ret
    all_goals exact ⟨rfl, below_alloc (Below.refl _ _) _⟩
  · have h0 : wordK k = [] := by unfold wordK; rw [if_neg (by omega), if_neg (by omega), if_neg (by omega), if_neg (by omega), if_neg (by omega), if_neg (by omega), if_neg (by omega), if_neg (by omega)]
    rw [h0] at hs
    subst hs
    by_cases h1 : k < 0
    · have hT : decide (k < 0) = true := decide_eq_true h1
      go_enter Try.func53, Try.ntmps53
      go_wp2
      all_goals go_ret
      all_goals exact ⟨rfl, below_alloc (Below.refl _ _) _⟩
    · have hT : decide (k < 0) = false := decide_eq_false h1
      have hT2 : decide (k > 8) = true := decide_eq_true (by omega)
      go_enter Try.func53, Try.ntmps53
      go_wp2
      all_goals go_ret
      all_goals exact ⟨rfl, below_alloc (Below.refl _ _) _⟩
end Go.Proofs.Ytglcopljhanhmaa
