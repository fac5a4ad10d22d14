/- GridNil: what its proof leads to. No condition. -/
import Derived.Test.YtblcmcdifgclcaaGrLqGridNil
namespace Go.Proofs.Ytblcmcdifgclcaa.Grd
open Go.RowKit Go.Proofs.Ytblcmcdifgclcaa Go.Proofs.Ytblcmcdifgclcaa.PGridSame Go.Proofs.YtblcmcdifgclcaaW.PrintWords Go.Proofs.YtblcmcdifgclcaaW.PrintLast Go.Proofs.YtblcmcdifgclcaaW.PrintMore
set_option linter.unusedVariables false
set_option linter.unusedSimpArgs false
set_option maxRecDepth 100000
set_option maxHeartbeats 4000000
attribute [local go_sem] max2_int min2_int max_two min_two
section
variable (W : World)
theorem has_nil (r : Int) : Calls Try.prog 106 #[.pointer none, .int .i64 r] W fun e w' => e = .returned (.bool false) ∧ w' = W := by
  go_enter Try.func106, Try.ntmps106
  go_wp2
  all_goals go_ret
  all_goals exact ⟨rfl, rfl⟩
theorem Rows_nil : Calls Try.prog 65 #[.pointer none] W fun e w' => e = .returned (.int .i64 0) ∧ w' = W := by
  go_enter Try.func65, Try.ntmps65
  go_wp2
  all_goals go_ret
  all_goals exact ⟨rfl, rfl⟩
theorem Cols_nil : Calls Try.prog 66 #[.pointer none] W fun e w' => e = .returned (.int .i64 0) ∧ w' = W := by
  go_enter Try.func66, Try.ntmps66
  go_wp2
  all_goals go_ret
  all_goals exact ⟨rfl, rfl⟩
theorem Row_nil : Calls Try.prog 67 #[.pointer none] W fun e w' => e = .returned (.int .i64 0) ∧ w' = W := by
  go_enter Try.func67, Try.ntmps67
  go_wp2
  all_goals go_ret
  all_goals exact ⟨rfl, rfl⟩
theorem Col_nil : Calls Try.prog 68 #[.pointer none] W fun e w' => e = .returned (.int .i64 0) ∧ w' = W := by
  go_enter Try.func68, Try.ntmps68
  go_wp2
  all_goals go_ret
  all_goals exact ⟨rfl, rfl⟩
theorem Right_nil : Calls Try.prog 74 #[.pointer none] W fun e w' => e = .returned (.bool false) ∧ w' = W := by
  go_enter Try.func74, Try.ntmps74
  go_wp2
  all_goals go_ret
  all_goals exact ⟨rfl, rfl⟩
theorem Copy_nil : Calls Try.prog 73 #[.pointer none] W fun e w' => e = .returned (.pointer none) ∧ w' = W := by
  go_enter Try.func73, Try.ntmps73
  go_wp2
  all_goals go_ret
  all_goals exact ⟨rfl, rfl⟩
theorem Move_nil (r c : Int) : Calls Try.prog 60 #[.pointer none, .int .i64 r, .int .i64 c] W fun e w' => e = .returned (.tuple #[]) ∧ w' = W := by
  go_enter Try.func60, Try.ntmps60
  go_wp2
  all_goals go_end0
  all_goals exact ⟨rfl, rfl⟩
theorem Fit_nil (r c : Int) : Calls Try.prog 63 #[.pointer none, .int .i64 r, .int .i64 c] W fun e w' => e = .returned (.tuple #[.pointer none, .int .i64 1]) ∧ w' = W := by
  go_enter Try.func63, Try.ntmps63
  go_wp2
  all_goals go_ret2
  all_goals exact ⟨rfl, rfl⟩
theorem Line_nil (r : Int) : Calls Try.prog 69 #[.pointer none, .int .i64 r] W fun e w' => e = .returned (.slice none 0 0) ∧ w' = W := by
  go_enter Try.func69, Try.ntmps69
  go_wp2_with (first | (go_at_call 106; refine (has_nil _ r).mono ?_; rintro e w1 ⟨rfl, rfl⟩))
  all_goals go_ret
  all_goals exact ⟨rfl, rfl⟩
theorem Scroll_nil (n p0 p1 p2 : Int) : Calls Try.prog 61 #[.pointer none, .int .i64 n, penV p0 p1 p2] W fun e w' => e = .returned (.tuple #[]) ∧ Below W.heap.size W w' := by
  go_enter Try.func61, Try.ntmps61
  go_wp2
  (try simp only [Exit.inBlock, Exit.then])
  refine bodyPost_ret (results_none rfl _ _ _) rfl ?_
  exact ⟨rfl, (by repeat (first | exact Below.refl _ _ | apply below_alloc | apply pw_below_drewN | apply below_drew1 | (refine Below.setCell ?_ (by simp) _)))⟩
theorem turn_nil (r : Int) (k : Nat) (bs : Array Value) : Calls Try.prog 104 #[.pointer none, .int .i64 r, .func (.func k) #[] bs] W fun e w' => e = .returned (.bool false) ∧ w' = W := by
  go_enter Try.func104, Try.ntmps104
  go_wp2_with (first | (go_at_call 106; refine (has_nil _ r).mono ?_; rintro e w1 ⟨rfl, rfl⟩))
  all_goals go_ret
  all_goals exact ⟨rfl, rfl⟩
theorem Put_nil (r i : Int) (x : CS) : Calls Try.prog 70 #[.pointer none, .int .i64 r, .int .i64 i, cellV x] W fun e w' => e = .returned (.bool false) ∧ Below W.heap.size W w' := by
  go_enter Try.func70, Try.ntmps70
  go_wp2_with (first | (go_at_call 104; refine (turn_nil _ r _ _).mono ?_; rintro e w1 ⟨rfl, rfl⟩))
  all_goals go_ret
  all_goals exact ⟨rfl, (by repeat (first | exact Below.refl _ _ | apply below_alloc | apply pw_below_drewN | apply below_drew1 | (refine Below.setCell ?_ (by simp) _)))⟩
theorem Mark_nil (r i m : Int) : Calls Try.prog 71 #[.pointer none, .int .i64 r, .int .i64 i, .int .i32 m] W fun e w' => e = .returned (.bool false) ∧ Below W.heap.size W w' := by
  go_enter Try.func71, Try.ntmps71
  go_wp2_with (first | (go_at_call 104; refine (turn_nil _ r _ _).mono ?_; rintro e w1 ⟨rfl, rfl⟩))
  all_goals go_ret
  all_goals exact ⟨rfl, (by repeat (first | exact Below.refl _ _ | apply below_alloc | apply pw_below_drewN | apply below_drew1 | (refine Below.setCell ?_ (by simp) _)))⟩
theorem Lay_nil (r : Int) (A : Option Addr) (n c : Nat) : Calls Try.prog 72 #[.pointer none, .int .i64 r, .slice A n c] W fun e w' => e = .returned (.bool false) ∧ Below W.heap.size W w' := by
  go_enter Try.func72, Try.ntmps72
  go_wp2_with (first | (go_at_call 104; refine (turn_nil _ r _ _).mono ?_; rintro e w1 ⟨rfl, rfl⟩))
  all_goals go_ret
  all_goals exact ⟨rfl, (by repeat (first | exact Below.refl _ _ | apply below_alloc | apply pw_below_drewN | apply below_drew1 | (refine Below.setCell ?_ (by simp) _)))⟩
theorem Erase_nil (r a b p0 p1 p2 : Int) : Calls Try.prog 59 #[.pointer none, .int .i64 r, .int .i64 a, .int .i64 b, penV p0 p1 p2] W fun e w' => e = .returned (.tuple #[]) ∧ Below W.heap.size W w' := by
  go_enter Try.func59, Try.ntmps59
  go_wp2_with (first | (go_at_call 104; refine (turn_nil _ r _ _).mono ?_; rintro e w1 ⟨rfl, rfl⟩))
  all_goals go_end0
  all_goals exact ⟨rfl, (by repeat (first | exact Below.refl _ _ | apply below_alloc | apply pw_below_drewN | apply below_drew1 | (refine Below.setCell ?_ (by simp) _)))⟩
theorem At_nil (r c : Int) : Calls Try.prog 62 #[.pointer none, .int .i64 r, .int .i64 c] W fun e w' => e = .returned (.tuple #[cellV zC, .bool false]) ∧ Below W.heap.size W w' := by
  have HB := Aside0.mk (show Below W.heap.size W (W.alloc (cellB zC)) from below_alloc (Below.refl _ _) _)
  go_enter Try.func62, Try.ntmps62
  go_wp2_with (first | (go_at_call 106; refine (has_nil _ r).mono ?_; rintro e w1 ⟨rfl, hw⟩; have H1 := Aside0.mk (show Below W.heap.size W w1 ∧ w1.heap[W.heap.size]? = some (cellB zC) by rw [hw]; exact ⟨HB.out, blk_new _ _⟩); have hz0 := (blk_cell H1.out.2 0).trans (rfl : _ = some (Value.int .i32 0)); have hz1 := (blk_cell H1.out.2 1).trans (rfl : _ = some (Value.int .i32 0)); have hz2 := (blk_cell H1.out.2 2).trans (rfl : _ = some (Value.int .i32 0)); have hz3 := (blk_cell H1.out.2 3).trans (rfl : _ = some (Value.int .u8 0)); have hz4 := (blk_cell H1.out.2 4).trans (rfl : _ = some (Value.int .u8 0)); have hz5 := (blk_cell H1.out.2 5).trans (rfl : _ = some (Value.int .u8 0)); have hz6 := (blk_cell H1.out.2 6).trans (rfl : _ = some (Value.int .u8 0)); have hf0 := blk_frozen H1.out.2 0; have hf1 := blk_frozen H1.out.2 1; have hf2 := blk_frozen H1.out.2 2; have hf3 := blk_frozen H1.out.2 3; have hf4 := blk_frozen H1.out.2 4; have hf5 := blk_frozen H1.out.2 5; have hf6 := blk_frozen H1.out.2 6; clear hw))
  refine bodyPost_ret (results_ct rfl _ _ W.heap.size 26 _ (0, 0) _ rfl (show (cOut w1 W.heap.size zC).heap[W.heap.size]? = _ from cOut_blk H1.out.2 zC) Try.underlying26 rfl rfl) (by rfl) ?_
  exact ⟨rfl, cOut_bel H1.out.1 (Nat.le_refl _) zC⟩
end
end Go.Proofs.Ytblcmcdifgclcaa.Grd
