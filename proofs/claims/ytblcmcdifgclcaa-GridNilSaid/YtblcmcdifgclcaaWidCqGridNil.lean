/- GridNil: what its proof leads to. No condition. -/
import Derived.Test.YtblcmcdifgclcaaWidAqGridNil
import Derived.Test.YtblcmcdifgclcaaRows
import Derived.WalkKit
import Derived.WalkSpells
import Derived.WalkLawsBesides
import Derived.ScopeJumps
import Derived.Great.Walk
import Derived.Deep.WholeRow
namespace Go.Proofs.Ytblcmcdifgclcaa
open Go.RowKit Go.Great Go.Proofs.YtblcmcdifgclcaaW.PrintWords Go.Proofs.YtblcmcdifgclcaaW.PrintLast Go.Proofs.YtblcmcdifgclcaaW.PrintMore
def marksC : Array Value := #[.int .i32 768, .int .i32 879, .int .i32 8203, .int .i32 8207, .int .i32 8400, .int .i32 8447, .int .i32 65024, .int .i32 65039, .int .i32 65056, .int .i32 65071]
def marksZ : Array Value := #[.int .i32 0, .int .i32 0, .int .i32 0, .int .i32 0, .int .i32 0, .int .i32 0, .int .i32 0, .int .i32 0, .int .i32 0, .int .i32 0]
set_option maxRecDepth 100000 in
theorem marks_any (w : World) : Calls Try.prog 124 #[] w fun r w' => r = .returned (.agg marksC) ∧ Below w.heap.size w w' := by
  go_enter Try.func124, Try.ntmps124
  apply wp_seq_k; intro K0 hK0
  apply wp_region_lit
  refine wpList_allocTo rfl _ rfl (.pointer (some ⟨w.heap.size, 0, none⟩)) (.cells marksZ 154) (by kernel_rfl) ?_
  apply wpList_nil
  refine hK0 _ _ ?_
  apply wp_seq_k; intro K1 hK1
  apply wp_region_lit
  iterate 5 (refine wpList_build rfl 152 _ rfl (by kernel_rfl) ?_)
  refine wpList_build rfl 154 _ rfl (by kernel_rfl) ?_
  refine wpList_store_row rfl 154 _ _ rfl w.heap.size marksC (by kernel_rfl) (by kernel_rfl) 154 marksZ (heap_alloc_last w _) (by kernel_rfl) (by kernel_rfl) (by kernel_rfl) ?_
  rw [World.setRow_alloc_new]
  apply wpList_nil
  refine hK1 _ _ ?_
  apply wp_ret
  refine bodyPost_ret (v := .agg marksC) (results_cell_row (p := 0) (by kernel_rfl) _ _ w.heap.size 154 marksC (0, 0) (.array 5 152) (by kernel_rfl) (heap_alloc_last w _) Try.underlying154 rfl (by kernel_rfl)) (by kernel_rfl) ⟨rfl, (by repeat (first | exact Below.refl _ _ | apply below_alloc | apply pw_below_drewN | apply below_drew1 | (refine Below.setCell ?_ (by simp) _)))⟩
/-- A range of the table, by its number. -/
theorem marks_at (i : Nat) (hi : i < 5) : ∃ lo hi : Int, markL[i]? = some (lo, hi) ∧ ∀ W, (Instr.index 154 (.agg marksC) (.int .i64 (i : Int))).run Try.prog W = .ok (.agg #[.int .i32 lo, .int .i32 hi]) W := by
  match i, hi with
  | 0, _ => exact ⟨768, 879, rfl, fun W => by kernel_rfl⟩
  | 1, _ => exact ⟨8203, 8207, rfl, fun W => by kernel_rfl⟩
  | 2, _ => exact ⟨8400, 8447, rfl, fun W => by kernel_rfl⟩
  | 3, _ => exact ⟨65024, 65039, rfl, fun W => by kernel_rfl⟩
  | 4, _ => exact ⟨65056, 65071, rfl, fun W => by kernel_rfl⟩
  | i + 5, h => omega
def widesC : Array Value := #[.int .i32 4352, .int .i32 4447, .int .i32 11904, .int .i32 12350, .int .i32 12353, .int .i32 42191, .int .i32 44032, .int .i32 55203, .int .i32 63744, .int .i32 64255, .int .i32 65072, .int .i32 65135, .int .i32 65280, .int .i32 65376, .int .i32 65504, .int .i32 65510, .int .i32 127744, .int .i32 128591, .int .i32 129280, .int .i32 129535, .int .i32 131072, .int .i32 262141]
def widesZ : Array Value := #[.int .i32 0, .int .i32 0, .int .i32 0, .int .i32 0, .int .i32 0, .int .i32 0, .int .i32 0, .int .i32 0, .int .i32 0, .int .i32 0, .int .i32 0, .int .i32 0, .int .i32 0, .int .i32 0, .int .i32 0, .int .i32 0, .int .i32 0, .int .i32 0, .int .i32 0, .int .i32 0, .int .i32 0, .int .i32 0]
set_option maxRecDepth 100000 in
theorem wides_any (w : World) : Calls Try.prog 125 #[] w fun r w' => r = .returned (.agg widesC) ∧ Below w.heap.size w w' := by
  go_enter Try.func125, Try.ntmps125
  apply wp_seq_k; intro K0 hK0
  apply wp_region_lit
  refine wpList_allocTo rfl _ rfl (.pointer (some ⟨w.heap.size, 0, none⟩)) (.cells widesZ 156) (by kernel_rfl) ?_
  apply wpList_nil
  refine hK0 _ _ ?_
  apply wp_seq_k; intro K1 hK1
  apply wp_region_lit
  iterate 11 (refine wpList_build rfl 152 _ rfl (by kernel_rfl) ?_)
  refine wpList_build rfl 156 _ rfl (by kernel_rfl) ?_
  refine wpList_store_row rfl 156 _ _ rfl w.heap.size widesC (by kernel_rfl) (by kernel_rfl) 156 widesZ (heap_alloc_last w _) (by kernel_rfl) (by kernel_rfl) (by kernel_rfl) ?_
  rw [World.setRow_alloc_new]
  apply wpList_nil
  refine hK1 _ _ ?_
  apply wp_ret
  refine bodyPost_ret (v := .agg widesC) (results_cell_row (p := 0) (by kernel_rfl) _ _ w.heap.size 156 widesC (0, 0) (.array 11 152) (by kernel_rfl) (heap_alloc_last w _) Try.underlying156 rfl (by kernel_rfl)) (by kernel_rfl) ⟨rfl, (by repeat (first | exact Below.refl _ _ | apply below_alloc | apply pw_below_drewN | apply below_drew1 | (refine Below.setCell ?_ (by simp) _)))⟩
/-- A range of the table, by its number. -/
theorem wides_at (i : Nat) (hi : i < 11) : ∃ lo hi : Int, wideL[i]? = some (lo, hi) ∧ ∀ W, (Instr.index 156 (.agg widesC) (.int .i64 (i : Int))).run Try.prog W = .ok (.agg #[.int .i32 lo, .int .i32 hi]) W := by
  match i, hi with
  | 0, _ => exact ⟨4352, 4447, rfl, fun W => by kernel_rfl⟩
  | 1, _ => exact ⟨11904, 12350, rfl, fun W => by kernel_rfl⟩
  | 2, _ => exact ⟨12353, 42191, rfl, fun W => by kernel_rfl⟩
  | 3, _ => exact ⟨44032, 55203, rfl, fun W => by kernel_rfl⟩
  | 4, _ => exact ⟨63744, 64255, rfl, fun W => by kernel_rfl⟩
  | 5, _ => exact ⟨65072, 65135, rfl, fun W => by kernel_rfl⟩
  | 6, _ => exact ⟨65280, 65376, rfl, fun W => by kernel_rfl⟩
  | 7, _ => exact ⟨65504, 65510, rfl, fun W => by kernel_rfl⟩
  | 8, _ => exact ⟨127744, 128591, rfl, fun W => by kernel_rfl⟩
  | 9, _ => exact ⟨129280, 129535, rfl, fun W => by kernel_rfl⟩
  | 10, _ => exact ⟨131072, 262141, rfl, fun W => by kernel_rfl⟩
  | i + 11, h => omega
end Go.Proofs.Ytblcmcdifgclcaa
