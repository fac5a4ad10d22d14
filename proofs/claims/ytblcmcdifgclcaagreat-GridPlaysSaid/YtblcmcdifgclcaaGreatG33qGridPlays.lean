/- GridPlays: what its proof leads to. No condition. -/
import Derived.Test.YtblcmcdifgclcaaGreatG6qGridPlays
import Derived.Test.YtblcmcdifgclcaaGreatG23qGridPlays
import Derived.Test.YtblcmcdifgclcaaGreatG24qGridPlays
import Derived.Test.YtblcmcdifgclcaaGreatG26qGridPlays
namespace Go.Proofs.YtblcmcdifgclcaaGreat.Grd
open Go.RowKit Go.Proofs.YtblcmcdifgclcaaGreat Go.Proofs.YtblcmcdifgclcaaGreat.PGridPlays Go.Proofs.YtblcmcdifgclcaaGreatW.PrintWords Go.Proofs.YtblcmcdifgclcaaGreatW.PrintLast Go.Proofs.YtblcmcdifgclcaaGreatW.PrintMore
set_option linter.unusedVariables false
set_option linter.unusedSimpArgs false
set_option maxRecDepth 100000
set_option maxHeartbeats 4000000
attribute [local go_sem] isSome_setCell max2_int min2_int max_two min_two
abbrev zC : CS := ⟨0, ⟨0, 0⟩, 0, ⟨0, 0, 0⟩⟩
def gAt (G : GV) (r c : Int) : CS × Bool := if gHas G r = true ∧ 0 ≤ c ∧ c < G.cols then (rd_T40 (gLn G r) c, true) else (zC, false)
def cOut (W : World) (g : Nat) (x : CS) : World := ((((((W.setCell ⟨g, 0, none⟩ (.int .i32 x.f0)).setCell ⟨g, 1, none⟩ (.int .i32 x.f1.f0)).setCell ⟨g, 2, none⟩ (.int .i32 x.f1.f1)).setCell ⟨g, 3, none⟩ (.int .u8 x.f2)).setCell ⟨g, 4, none⟩ (.int .u8 x.f3.f0)).setCell ⟨g, 5, none⟩ (.int .u8 x.f3.f1)).setCell ⟨g, 6, none⟩ (.int .u8 x.f3.f2)
theorem cOut_blk {W : World} {g : Nat} {y : CS} (h : W.heap[g]? = some (cellB y)) (x : CS) : (cOut W g x).heap[g]? = some (cellB x) := by
 simpa [cOut] using blk_set (blk_set (blk_set (blk_set (blk_set (blk_set (blk_set h 0 (.int .i32 x.f0)) 1 (.int .i32 x.f1.f0)) 2 (.int .i32 x.f1.f1)) 3 (.int .u8 x.f2)) 4 (.int .u8 x.f3.f0)) 5 (.int .u8 x.f3.f1)) 6 (.int .u8 x.f3.f2)
theorem cOut_bel {w W : World} {g : Nat} (h : Below w.heap.size w W) (hg : w.heap.size ≤ g) (x : CS) : Below w.heap.size w (cOut W g x) :=
 ((((((h.setCell hg _).setCell hg _).setCell hg _).setCell hg _).setCell hg _).setCell hg _).setCell hg _
theorem At_any {O : Nat → Prop} {w : World} {g : Nat} {G : GV} (h : GS O w g G) (r c : Int) : Calls Tryz.prog 13 #[.pointer (some ⟨g, 0, none⟩), .int .i64 r, .int .i64 c] w fun e w' => e = .returned (.tuple #[cellV (gAt G r c).1, .bool (gAt G r c).2]) ∧ Below w.heap.size w w' := by
 have HS := aS h
 have HB := aS (show Below w.heap.size w (w.alloc (cellB zC)) from below_alloc (Below.refl _ _) _)
 by_cases hr : gHas G r = true
 ·have HR := aS hr
  by_cases hc0 : c < 0
  ·have hT0 : decide (c < 0) = true := decide_eq_true hc0
   rw [show gAt G r c = (zC, false) by unfold gAt; rw [if_neg (by omega)]]
   clear h hr hc0
   go_enter Tryz.func13, Tryz.ntmps13
   go_wp2_with (first | (go_at_call 51; refine (has_any (HS.out.below HB.out) r).mono ?_; rintro e w1 ⟨rfl, hw⟩; rw [HR.out]; have H1 := aS (show Below w.heap.size w w1 ∧ w1.heap[w.heap.size]? = some (cellB zC) by rw [hw]; exact ⟨HB.out, blk_new _ _⟩); have hz0 := (blk_cell H1.out.2 0).trans (rfl : _ = some (Value.int .i32 0)); have hz1 := (blk_cell H1.out.2 1).trans (rfl : _ = some (Value.int .i32 0)); have hz2 := (blk_cell H1.out.2 2).trans (rfl : _ = some (Value.int .i32 0)); have hz3 := (blk_cell H1.out.2 3).trans (rfl : _ = some (Value.int .u8 0)); have hz4 := (blk_cell H1.out.2 4).trans (rfl : _ = some (Value.int .u8 0)); have hz5 := (blk_cell H1.out.2 5).trans (rfl : _ = some (Value.int .u8 0)); have hz6 := (blk_cell H1.out.2 6).trans (rfl : _ = some (Value.int .u8 0)); have hf0 := blk_frozen H1.out.2 0; have hf1 := blk_frozen H1.out.2 1; have hf2 := blk_frozen H1.out.2 2; have hf3 := blk_frozen H1.out.2 3; have hf4 := blk_frozen H1.out.2 4; have hf5 := blk_frozen H1.out.2 5; have hf6 := blk_frozen H1.out.2 6; clear hw))
   refine bodyPost_ret (results_ct rfl _ _ w.heap.size 40 _ (0, 0) _ rfl (show (cOut w1 w.heap.size zC).heap[w.heap.size]? = _ from cOut_blk H1.out.2 zC) Tryz.underlying40 rfl rfl) (by rfl) ?_
   exact ⟨rfl, cOut_bel H1.out.1 (Nat.le_refl _) zC⟩
  ·obtain ⟨m, rfl⟩ : ∃ m : Nat, c = (m : Int) := ⟨c.toNat, by omega⟩
   have hT0 : decide ((m : Int) < 0) = false := decide_eq_false hc0
   obtain ⟨b, cap, -, -, -, hx, -, hrow⟩ := h.open_
   by_cases hm : m < G.cols
   ·obtain ⟨n, rfl, hn, hg⟩ := has_row hr
    obtain ⟨A, d, hcl, -, hd, hF⟩ := hrow n _ hg
    have hlen := h.ok.len _ (gLn_mem hr)
    obtain ⟨l, hl⟩ : ∃ l, gLn G (n : Int) = l := ⟨_, rfl⟩
    have hgt : gAt G (n : Int) (m : Int) = (rd_T40 l (m : Int), true) := by unfold gAt; rw [if_pos ⟨hr, by omega, by omega⟩, hl]
    rw [hgt]
    rw [hl] at hcl hF hlen
    obtain ⟨x, hxx⟩ : ∃ x, rd_T40 l (m : Int) = x := ⟨_, rfl⟩
    rw [hxx]
    have hT1 : decide (m < G.cols) = true := decide_eq_true hm
    have hT2 : decide (G.cols ≤ m) = false := decide_eq_false (by omega)
    have hT3 : decide ((G.cols : Int) ≤ (m : Int)) = false := decide_eq_false (by omega)
    have hml : m < l.length := by omega
    have HX := aS (And.intro hx (And.intro hcl (And.intro (Kd.F_now hF) (And.intro hxx (show (m : Int) < (l.length : Int) by omega)))))
    clear h hr hx hrow hg hd hF hlen hl hgt hxx hcl
    go_enter Tryz.func13, Tryz.ntmps13
    go_wp2_with (first | (go_at_call 51; refine (has_any (HS.out.below HB.out) (n : Int)).mono ?_; rintro e w1 ⟨rfl, hw⟩; rw [HR.out]; have H1 := aS (show Below w.heap.size w w1 ∧ w1.heap[w.heap.size]? = some (cellB zC) by rw [hw]; exact ⟨HB.out, blk_new _ _⟩); have hz0 := (blk_cell H1.out.2 0).trans (rfl : _ = some (Value.int .i32 0)); have hz1 := (blk_cell H1.out.2 1).trans (rfl : _ = some (Value.int .i32 0)); have hz2 := (blk_cell H1.out.2 2).trans (rfl : _ = some (Value.int .i32 0)); have hz3 := (blk_cell H1.out.2 3).trans (rfl : _ = some (Value.int .u8 0)); have hz4 := (blk_cell H1.out.2 4).trans (rfl : _ = some (Value.int .u8 0)); have hz5 := (blk_cell H1.out.2 5).trans (rfl : _ = some (Value.int .u8 0)); have hz6 := (blk_cell H1.out.2 6).trans (rfl : _ = some (Value.int .u8 0)); have hf0 := blk_frozen H1.out.2 0; have hf1 := blk_frozen H1.out.2 1; have hf2 := blk_frozen H1.out.2 2; have hf3 := blk_frozen H1.out.2 3; have hf4 := blk_frozen H1.out.2 4; have hf5 := blk_frozen H1.out.2 5; have hf6 := blk_frozen H1.out.2 6; have g2 := (blk_cell (blk_below HX.out.1 H1.out.1) 2).trans (rfl : _ = some (Value.slice (some ⟨b, 0, none⟩) G.L.length cap)); have g3 := (blk_cell (blk_below HX.out.1 H1.out.1) 3).trans (rfl : _ = some (Value.int .i64 G.cols)); have gc := pw_cell_below H1.out.1 HX.out.2.1; obtain ⟨ad, rfl, c0, c1, c2, c3, c4, c5, c6⟩ := at_T40 (Kd.C_below HX.out.2.2.1 H1.out.1) (m : Int) (Int.natCast_nonneg m) HX.out.2.2.2.2; rw [HX.out.2.2.2.1] at c0 c1 c2 c3 c4 c5 c6; simp only [Int.toNat_natCast] at c0 c1 c2 c3 c4 c5 c6; clear hw))
    refine bodyPost_ret (results_ct rfl _ _ w.heap.size 40 _ (0, 0) _ rfl (show (cOut w1 w.heap.size x).heap[w.heap.size]? = _ from cOut_blk H1.out.2 x) Tryz.underlying40 rfl rfl) (by rfl) ?_
    exact ⟨rfl, cOut_bel H1.out.1 (Nat.le_refl _) x⟩
   ·have hT1 : decide (m < G.cols) = false := decide_eq_false hm
    have hT2 : decide (G.cols ≤ m) = true := decide_eq_true (by omega)
    have hT3 : decide ((G.cols : Int) ≤ (m : Int)) = true := decide_eq_true (by omega)
    rw [show gAt G r (m : Int) = (zC, false) by unfold gAt; rw [if_neg (by omega)]]
    have HX := aS hx
    clear h hr hx hrow hm
    go_enter Tryz.func13, Tryz.ntmps13
    go_wp2_with (first | (go_at_call 51; refine (has_any (HS.out.below HB.out) r).mono ?_; rintro e w1 ⟨rfl, hw⟩; rw [HR.out]; have H1 := aS (show Below w.heap.size w w1 ∧ w1.heap[w.heap.size]? = some (cellB zC) by rw [hw]; exact ⟨HB.out, blk_new _ _⟩); have hz0 := (blk_cell H1.out.2 0).trans (rfl : _ = some (Value.int .i32 0)); have hz1 := (blk_cell H1.out.2 1).trans (rfl : _ = some (Value.int .i32 0)); have hz2 := (blk_cell H1.out.2 2).trans (rfl : _ = some (Value.int .i32 0)); have hz3 := (blk_cell H1.out.2 3).trans (rfl : _ = some (Value.int .u8 0)); have hz4 := (blk_cell H1.out.2 4).trans (rfl : _ = some (Value.int .u8 0)); have hz5 := (blk_cell H1.out.2 5).trans (rfl : _ = some (Value.int .u8 0)); have hz6 := (blk_cell H1.out.2 6).trans (rfl : _ = some (Value.int .u8 0)); have hf0 := blk_frozen H1.out.2 0; have hf1 := blk_frozen H1.out.2 1; have hf2 := blk_frozen H1.out.2 2; have hf3 := blk_frozen H1.out.2 3; have hf4 := blk_frozen H1.out.2 4; have hf5 := blk_frozen H1.out.2 5; have hf6 := blk_frozen H1.out.2 6; have g3 := (blk_cell (blk_below HX.out H1.out.1) 3).trans (rfl : _ = some (Value.int .i64 G.cols)); clear hw))
    refine bodyPost_ret (results_ct rfl _ _ w.heap.size 40 _ (0, 0) _ rfl (show (cOut w1 w.heap.size zC).heap[w.heap.size]? = _ from cOut_blk H1.out.2 zC) Tryz.underlying40 rfl rfl) (by rfl) ?_
    exact ⟨rfl, cOut_bel H1.out.1 (Nat.le_refl _) zC⟩
 ·have HR := aS (Bool.eq_false_iff.2 hr)
  rw [show gAt G r c = (zC, false) by unfold gAt; rw [if_neg (fun h => hr h.1)]]
  clear h hr
  go_enter Tryz.func13, Tryz.ntmps13
  go_wp2_with (first | (go_at_call 51; refine (has_any (HS.out.below HB.out) r).mono ?_; rintro e w1 ⟨rfl, hw⟩; rw [HR.out]; have H1 := aS (show Below w.heap.size w w1 ∧ w1.heap[w.heap.size]? = some (cellB zC) by rw [hw]; exact ⟨HB.out, blk_new _ _⟩); have hz0 := (blk_cell H1.out.2 0).trans (rfl : _ = some (Value.int .i32 0)); have hz1 := (blk_cell H1.out.2 1).trans (rfl : _ = some (Value.int .i32 0)); have hz2 := (blk_cell H1.out.2 2).trans (rfl : _ = some (Value.int .i32 0)); have hz3 := (blk_cell H1.out.2 3).trans (rfl : _ = some (Value.int .u8 0)); have hz4 := (blk_cell H1.out.2 4).trans (rfl : _ = some (Value.int .u8 0)); have hz5 := (blk_cell H1.out.2 5).trans (rfl : _ = some (Value.int .u8 0)); have hz6 := (blk_cell H1.out.2 6).trans (rfl : _ = some (Value.int .u8 0)); have hf0 := blk_frozen H1.out.2 0; have hf1 := blk_frozen H1.out.2 1; have hf2 := blk_frozen H1.out.2 2; have hf3 := blk_frozen H1.out.2 3; have hf4 := blk_frozen H1.out.2 4; have hf5 := blk_frozen H1.out.2 5; have hf6 := blk_frozen H1.out.2 6; clear hw))
  refine bodyPost_ret (results_ct rfl _ _ w.heap.size 40 _ (0, 0) _ rfl (show (cOut w1 w.heap.size zC).heap[w.heap.size]? = _ from cOut_blk H1.out.2 zC) Tryz.underlying40 rfl rfl) (by rfl) ?_
  exact ⟨rfl, cOut_bel H1.out.1 (Nat.le_refl _) zC⟩
end Go.Proofs.YtblcmcdifgclcaaGreat.Grd
