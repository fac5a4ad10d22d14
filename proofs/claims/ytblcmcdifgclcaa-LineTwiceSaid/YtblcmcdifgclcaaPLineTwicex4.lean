/- What the law LineTwice reaches: each function with its contract. -/
import Derived.Test.YtblcmcdifgclcaaPLineTwicex0
import Derived.Test.YtblcmcdifgclcaaPLineTwicex1
import Derived.Test.YtblcmcdifgclcaaPLineTwicex3
namespace Go.Proofs.Ytblcmcdifgclcaa.PLineTwice
open Go.RowKit Go.Proofs.YtblcmcdifgclcaaW.PrintWords Go.Proofs.YtblcmcdifgclcaaW.PrintLast Go.Proofs.YtblcmcdifgclcaaW.PrintMore
attribute [local go_sem] max2_int min2_int max_two min_two max_three min_three max_four min_four   -- for this text's walks alone
set_option linter.unusedVariables false
set_option linter.unusedSimpArgs false

attribute [local go_sem high] eqA24
/-! ### line_Right: function 36 -/
def line_Right.l0 : Nat → List (S26) → List (S26) → Int → Int → Option (Bool)
  | 0, _, _, _, _ => none
  | k + 1, x0, x5, x6, x7 => if x7 < x6 then (if 0 ≤ x7 then (if x7 < (x5.length : Int) then ((cell_Right.f ((rd_T26 x5 x7).f0) ((rd_T26 x5 x7).f1.f0) ((rd_T26 x5 x7).f1.f1) ((rd_T26 x5 x7).f2) ((rd_T26 x5 x7).f3.f0) ((rd_T26 x5 x7).f3.f1) ((rd_T26 x5 x7).f3.f2)).bind fun t125 => (if t125 = true then ((line_alone.f x0 x7).bind fun t126 => (if t126 = true then (some false) else (if ((rd_T26 x5 x7).f2) = 0 then (if 0 ≤ (wrap64 (x7 - 1)) then (if (wrap64 (x7 - 1)) < (x0.length : Int) then (if (!(((rd_T26 x0 (wrap64 (x7 - 1))).f3.f0) == ((rd_T26 x5 x7).f3.f0)) || (!(((rd_T26 x0 (wrap64 (x7 - 1))).f3.f1) == ((rd_T26 x5 x7).f3.f1)) || (!(((rd_T26 x0 (wrap64 (x7 - 1))).f3.f2) == ((rd_T26 x5 x7).f3.f2))))) = true then (some false) else (line_Right.l0 k x0 x5 x6 (wrap64 (x7 + 1)))) else (none)) else (none)) else (line_Right.l0 k x0 x5 x6 (wrap64 (x7 + 1)))))) else (some false))) else (none)) else (none)) else (some true)
def line_Right.f (k : Nat) (l0 : List (S26)) : Option (Bool) := line_Right.l0 k l0 l0 (l0.length : Int) 0
theorem line_Right.mono_l : ∀ k, (∀ y0 y1 y2 y3, LeO (line_Right.l0 k y0 y1 y2 y3) (line_Right.l0 (k + 1) y0 y1 y2 y3))
  | 0 => fun _ _ _ _ r h => by simp [line_Right.l0] at h
  | k + 1 => by
    have ih0 := line_Right.mono_l k
    · intro y0 y1 y2 y3
      unfold line_Right.l0
      repeat' first
      | (with_reducible exact ih0 _ _ _ _)
      | (with_reducible exact LeO.refl _)
      | (with_reducible exact LeO.none _)
      | (with_reducible refine LeO.ite ?_ ?_)
      | (with_reducible refine LeO.bind ?_ (fun _ => ?_))
      | exact ih0 _ _ _ _
      | exact LeO.none _
      | refine LeO.ite ?_ ?_
      | refine LeO.bind ?_ (fun _ => ?_)
theorem line_Right.mono : ∀ a0 k, LeO (line_Right.f k a0) (line_Right.f (k + 1) a0) := by
  intro a0 k
  have ih0 := line_Right.mono_l k
  unfold line_Right.f
  repeat' first
      | (with_reducible exact ih0 _ _ _ _)
      | (with_reducible exact LeO.refl _)
      | (with_reducible exact LeO.none _)
      | (with_reducible refine LeO.ite ?_ ?_)
      | (with_reducible refine LeO.bind ?_ (fun _ => ?_))
      | exact ih0 _ _ _ _
      | exact LeO.none _
      | refine LeO.ite ?_ ?_
      | refine LeO.bind ?_ (fun _ => ?_)
def line_Right.T4 : Bool × List (List Nat × List Nat) := (true, [([], []), ([0], [0]), ([1], [1]), ([2, 1], [2]), ([3], [3]), ([3], [3]), ([4, 5, 3, 3], [3, 4, 5]), ([3, 6], [3, 6]), ([7, 6], [7]), ([8], [8]), ([9, 8], [8, 9]), ([10, 8], [8, 10]), ([11, 8, 8], [8, 11]), ([12], [12]), ([12], [12]), ([14, 12], [12, 14]), ([13, 15, 12], [12, 13, 15]), ([16, 12], [12, 16]), ([17, 12], [12, 17]), ([12], [12]), ([19, 12], [12, 19]), ([18, 20, 12], [12, 18, 20]), ([12, 21, 8], [8, 12, 21]), ([8, 22], [8, 22])])
def line_Right.B4 : List Nat := [0, 1, 3, 7, 15, 15, 63, 127, 255, 511, 1023, 2047, 4095, 8191, 8191, 24575, 65535, 131071, 262143, 8191, 532479, 2097151, 4194303, 8388607]
theorem line_Right.tab4 : rtab .any (opsOf Try.f36 4) = line_Right.T4 := by kernel_rfl
theorem line_Right.bits4 : waitsOk line_Right.T4.2 line_Right.B4 = true := by kernel_rfl
set_option maxHeartbeats 8000000 in
set_option maxRecDepth 100000 in
theorem line_Right.calls (k : Nat) (A0 : Option Addr) (c0 : Nat) (l0 : List (S26)) (r : Bool) (w : World) (hr0 : Kd.C k26 w A0 l0.length l0) (hc0 : l0.length ≤ c0) (h : line_Right.f k l0 = some r) :
    Calls Try.prog 36 #[.slice A0 l0.length c0] w fun e w' => e = .returned (.bool r) ∧ Below w.heap.size w w' := by
  have hu26 := Try.underlying26
  have hu24 := Try.underlying24
  have HR0 := Aside0.mk hr0
  have HC0 := Aside0.mk hc0
  clear hr0 hc0
  have HB := Aside0.mk (Below.refl w.heap.size w)
  have H : (line_Right.l0 k l0 l0 (l0.length : Int) 0) = some r := h
  clear h
  have H' := Aside0.mk H
  clear H
  go_enter Try.func36, Try.ntmps36
  go_wp2
  go_loopg [7] k (fun kq v7 w' => ∃ (x7_1 : Int), v7 = .int .i64 x7_1 ∧ Aside0 (line_Right.l0 kq l0 l0 (l0.length : Int) x7_1 = some r) ∧ Aside0 (kq ≤ k) ∧ Aside0 (Below w.heap.size w w'))
  case atStart => exact ⟨(0), (by first | rfl | (simp; done) | (simp [*]; done)), H', ⟨Nat.le_refl _⟩, ⟨by repeat (first | (with_reducible first | exact HB.out | apply below_alloc | apply pw_below_drewN | apply below_drew1) | exact HB.out)⟩⟩
  case round =>
    clear H'
    obtain ⟨x7_1, rfl, HA, HK1, HB⟩ := hrel
    cases gk with
    | zero => exact absurd HA.out (by simp [line_Right.l0])
    | succ k1 =>
      have H := HA.out
      clear HA
      simp only [line_Right.l0] at H
      by_cases c2 : x7_1 < (l0.length : Int)
      · rw [if_pos c2] at H
        have c2b0 : decide (x7_1 < (l0.length : Int)) = true := decide_eq_true c2
        clear c2
        by_cases c3 : 0 ≤ x7_1
        · rw [if_pos c3] at H
          have c3b0 : decide (0 ≤ x7_1) = true := decide_eq_true c3
          clear c3
          by_cases c4 : x7_1 < (l0.length : Int)
          · rw [if_pos c4] at H
            have c4b0 : decide (x7_1 < (l0.length : Int)) = true := decide_eq_true c4
            clear c4
            replace H := Option.bind_eq_some_iff.mp H
            obtain ⟨t125, A50, H⟩ := H
            replace H : (if t125 = true then ((line_alone.f l0 x7_1).bind fun t126 => (if t126 = true then (some false) else (if ((rd_T26 l0 x7_1).f2) = 0 then (if 0 ≤ (wrap64 (x7_1 - 1)) then (if (wrap64 (x7_1 - 1)) < (l0.length : Int) then (if (!(((rd_T26 l0 (wrap64 (x7_1 - 1))).f3.f0) == ((rd_T26 l0 x7_1).f3.f0)) || (!(((rd_T26 l0 (wrap64 (x7_1 - 1))).f3.f1) == ((rd_T26 l0 x7_1).f3.f1)) || (!(((rd_T26 l0 (wrap64 (x7_1 - 1))).f3.f2) == ((rd_T26 l0 x7_1).f3.f2))))) = true then (some false) else (line_Right.l0 k1 l0 l0 (l0.length : Int) (wrap64 (x7_1 + 1)))) else (none)) else (none)) else (line_Right.l0 k1 l0 l0 (l0.length : Int) (wrap64 (x7_1 + 1)))))) else (some false)) = some r := H
            have A5 := Aside0.mk A50
            clear A50
            by_cases c6 : t125 = true
            · subst c6
              have H1 : ((line_alone.f l0 x7_1).bind fun t126 => (if t126 = true then (some false) else (if ((rd_T26 l0 x7_1).f2) = 0 then (if 0 ≤ (wrap64 (x7_1 - 1)) then (if (wrap64 (x7_1 - 1)) < (l0.length : Int) then (if (!(((rd_T26 l0 (wrap64 (x7_1 - 1))).f3.f0) == ((rd_T26 l0 x7_1).f3.f0)) || (!(((rd_T26 l0 (wrap64 (x7_1 - 1))).f3.f1) == ((rd_T26 l0 x7_1).f3.f1)) || (!(((rd_T26 l0 (wrap64 (x7_1 - 1))).f3.f2) == ((rd_T26 l0 x7_1).f3.f2))))) = true then (some false) else (line_Right.l0 k1 l0 l0 (l0.length : Int) (wrap64 (x7_1 + 1)))) else (none)) else (none)) else (line_Right.l0 k1 l0 l0 (l0.length : Int) (wrap64 (x7_1 + 1)))))) = some r := by rw [if_pos rfl] at H; exact H
              clear H
              have H := H1
              clear H1
              replace H := Option.bind_eq_some_iff.mp H
              obtain ⟨t126, A70, H⟩ := H
              replace H : (if t126 = true then (some false) else (if ((rd_T26 l0 x7_1).f2) = 0 then (if 0 ≤ (wrap64 (x7_1 - 1)) then (if (wrap64 (x7_1 - 1)) < (l0.length : Int) then (if (!(((rd_T26 l0 (wrap64 (x7_1 - 1))).f3.f0) == ((rd_T26 l0 x7_1).f3.f0)) || (!(((rd_T26 l0 (wrap64 (x7_1 - 1))).f3.f1) == ((rd_T26 l0 x7_1).f3.f1)) || (!(((rd_T26 l0 (wrap64 (x7_1 - 1))).f3.f2) == ((rd_T26 l0 x7_1).f3.f2))))) = true then (some false) else (line_Right.l0 k1 l0 l0 (l0.length : Int) (wrap64 (x7_1 + 1)))) else (none)) else (none)) else (line_Right.l0 k1 l0 l0 (l0.length : Int) (wrap64 (x7_1 + 1))))) = some r := H
              have A7 := Aside0.mk A70
              clear A70
              by_cases c8 : t126 = true
              · subst c8
                have H1 : (some false) = some r := by rw [if_pos rfl] at H; exact H
                clear H
                have H := H1
                clear H1
                obtain rfl := Option.some.inj H
                have p123 : 0 ≤ (x7_1 : Int) := of_decide_eq_true (by first | (with_reducible assumption) | assumption)
                have q123 : x7_1 < (l0.length : Int) := of_decide_eq_true (by first | (with_reducible assumption) | assumption)
                obtain ⟨ad123, e123, hx123_0, hx123_1, hx123_2, hx123_3, hx123_4, hx123_5, hx123_6⟩ := at_T26 HR0.out x7_1 p123 q123
                cases e123
                replace hx123_0 := (HB.out.cell (World.block_lt_of_cell? w _ hx123_0)).trans hx123_0
                replace hx123_1 := (HB.out.cell (World.block_lt_of_cell? w _ hx123_1)).trans hx123_1
                replace hx123_2 := (HB.out.cell (World.block_lt_of_cell? w _ hx123_2)).trans hx123_2
                replace hx123_3 := (HB.out.cell (World.block_lt_of_cell? w _ hx123_3)).trans hx123_3
                replace hx123_4 := (HB.out.cell (World.block_lt_of_cell? w _ hx123_4)).trans hx123_4
                replace hx123_5 := (HB.out.cell (World.block_lt_of_cell? w _ hx123_5)).trans hx123_5
                replace hx123_6 := (HB.out.cell (World.block_lt_of_cell? w _ hx123_6)).trans hx123_6
                replace p123 := eq_true p123
                replace q123 := eq_true q123
                try go_wp2_with (first | ((with_reducible refine gate_dst (N := 4) rfl ?_); refine box_event ?hg (N := 4) ?hd (cs := #[.int .i32 0, .int .i32 0, .int .i32 0, .int .u8 0, .int .u8 0, .int .u8 0, .int .u8 0]) (t := 26) ?hr ?_; (case hd => rfl); (case hg => rfl); (case hr => first | (go_simp; done) | (go_simp; rfl)); intro gb124 hg w9 hbox hb; have n0_ := Aside0.mk (below_step (by repeat (first | (with_reducible first | exact HB.out | apply below_alloc | apply pw_below_drewN | apply below_drew1) | exact HB.out)) hb); have n1_ := Aside0.mk (hbox); have n2_ := Aside0.mk ((by rw [hg]; exact (below_size (by repeat (first | (with_reducible first | exact HB.out | apply below_alloc | apply pw_below_drewN | apply below_drew1) | exact HB.out))) : w.heap.size ≤ gb124)); have n3_ := Aside0.mk ((by rw [hg]; exact (below_size (by repeat (first | (with_reducible first | exact HB.out | apply below_alloc | apply pw_below_drewN | apply below_drew1) | exact HB.out))) : w.heap.size ≤ gb124)); clear HB; have HB := n0_; have BK124 := n1_; have GW124 := n2_; have GE124 := n3_; clear n0_ n1_ n2_ n3_; clear hb hbox hg; have hcz10_0 : w9.cell? ⟨gb124, 0, none⟩ = some (.int .i32 0) := (blk_cell BK124.out 0).trans rfl; have hcz10_1 : w9.cell? ⟨gb124, 1, none⟩ = some (.int .i32 0) := (blk_cell BK124.out 1).trans rfl; have hcz10_2 : w9.cell? ⟨gb124, 2, none⟩ = some (.int .i32 0) := (blk_cell BK124.out 2).trans rfl; have hcz10_3 : w9.cell? ⟨gb124, 3, none⟩ = some (.int .u8 0) := (blk_cell BK124.out 3).trans rfl; have hcz10_4 : w9.cell? ⟨gb124, 4, none⟩ = some (.int .u8 0) := (blk_cell BK124.out 4).trans rfl; have hcz10_5 : w9.cell? ⟨gb124, 5, none⟩ = some (.int .u8 0) := (blk_cell BK124.out 5).trans rfl; have hcz10_6 : w9.cell? ⟨gb124, 6, none⟩ = some (.int .u8 0) := (blk_cell BK124.out 6).trans rfl; have hfz10_0 := blk_frozen BK124.out 0; have hfz10_1 := blk_frozen BK124.out 1; have hfz10_2 := blk_frozen BK124.out 2; have hfz10_3 := blk_frozen BK124.out 3; have hfz10_4 := blk_frozen BK124.out 4; have hfz10_5 := blk_frozen BK124.out 5; have hfz10_6 := blk_frozen BK124.out 6))
                have n0_ : Aside0 ((((((((w9.setCell ⟨gb124, 0, none⟩ (.int .i32 ((rd_T26 l0 x7_1).f0))).setCell ⟨gb124, 1, none⟩ (.int .i32 ((rd_T26 l0 x7_1).f1.f0))).setCell ⟨gb124, 2, none⟩ (.int .i32 ((rd_T26 l0 x7_1).f1.f1))).setCell ⟨gb124, 3, none⟩ (.int .u8 ((rd_T26 l0 x7_1).f2))).setCell ⟨gb124, 4, none⟩ (.int .u8 ((rd_T26 l0 x7_1).f3.f0))).setCell ⟨gb124, 5, none⟩ (.int .u8 ((rd_T26 l0 x7_1).f3.f1))).setCell ⟨gb124, 6, none⟩ (.int .u8 ((rd_T26 l0 x7_1).f3.f2))).heap[gb124]? = some (.cells #[.int .i32 ((rd_T26 l0 x7_1).f0), .int .i32 ((rd_T26 l0 x7_1).f1.f0), .int .i32 ((rd_T26 l0 x7_1).f1.f1), .int .u8 ((rd_T26 l0 x7_1).f2), .int .u8 ((rd_T26 l0 x7_1).f3.f0), .int .u8 ((rd_T26 l0 x7_1).f3.f1), .int .u8 ((rd_T26 l0 x7_1).f3.f2)] 26 (0, 0))) := ⟨by (with_reducible repeat (first | refine blk_drewN ?_ _ | refine blk_drew ?_ | refine blk_alloc ?_ _)); refine blk_put (cs := #[.int .i32 ((rd_T26 l0 x7_1).f0), .int .i32 ((rd_T26 l0 x7_1).f1.f0), .int .i32 ((rd_T26 l0 x7_1).f1.f1), .int .u8 ((rd_T26 l0 x7_1).f2), .int .u8 ((rd_T26 l0 x7_1).f3.f0), .int .u8 ((rd_T26 l0 x7_1).f3.f1), .int .u8 0]) ?_ 6 _ rfl; (with_reducible repeat (first | refine blk_drewN ?_ _ | refine blk_drew ?_ | refine blk_alloc ?_ _)); refine blk_put (cs := #[.int .i32 ((rd_T26 l0 x7_1).f0), .int .i32 ((rd_T26 l0 x7_1).f1.f0), .int .i32 ((rd_T26 l0 x7_1).f1.f1), .int .u8 ((rd_T26 l0 x7_1).f2), .int .u8 ((rd_T26 l0 x7_1).f3.f0), .int .u8 0, .int .u8 0]) ?_ 5 _ rfl; (with_reducible repeat (first | refine blk_drewN ?_ _ | refine blk_drew ?_ | refine blk_alloc ?_ _)); refine blk_put (cs := #[.int .i32 ((rd_T26 l0 x7_1).f0), .int .i32 ((rd_T26 l0 x7_1).f1.f0), .int .i32 ((rd_T26 l0 x7_1).f1.f1), .int .u8 ((rd_T26 l0 x7_1).f2), .int .u8 0, .int .u8 0, .int .u8 0]) ?_ 4 _ rfl; (with_reducible repeat (first | refine blk_drewN ?_ _ | refine blk_drew ?_ | refine blk_alloc ?_ _)); refine blk_put (cs := #[.int .i32 ((rd_T26 l0 x7_1).f0), .int .i32 ((rd_T26 l0 x7_1).f1.f0), .int .i32 ((rd_T26 l0 x7_1).f1.f1), .int .u8 0, .int .u8 0, .int .u8 0, .int .u8 0]) ?_ 3 _ rfl; (with_reducible repeat (first | refine blk_drewN ?_ _ | refine blk_drew ?_ | refine blk_alloc ?_ _)); refine blk_put (cs := #[.int .i32 ((rd_T26 l0 x7_1).f0), .int .i32 ((rd_T26 l0 x7_1).f1.f0), .int .i32 0, .int .u8 0, .int .u8 0, .int .u8 0, .int .u8 0]) ?_ 2 _ rfl; (with_reducible repeat (first | refine blk_drewN ?_ _ | refine blk_drew ?_ | refine blk_alloc ?_ _)); refine blk_put (cs := #[.int .i32 ((rd_T26 l0 x7_1).f0), .int .i32 0, .int .i32 0, .int .u8 0, .int .u8 0, .int .u8 0, .int .u8 0]) ?_ 1 _ rfl; (with_reducible repeat (first | refine blk_drewN ?_ _ | refine blk_drew ?_ | refine blk_alloc ?_ _)); refine blk_put (cs := #[.int .i32 0, .int .i32 0, .int .i32 0, .int .u8 0, .int .u8 0, .int .u8 0, .int .u8 0]) ?_ 0 _ rfl; (with_reducible repeat (first | refine blk_drewN ?_ _ | refine blk_drew ?_ | refine blk_alloc ?_ _)); exact BK124.out⟩
                have n1_ : Aside0 (Below w.heap.size w (((((((w9.setCell ⟨gb124, 0, none⟩ (.int .i32 ((rd_T26 l0 x7_1).f0))).setCell ⟨gb124, 1, none⟩ (.int .i32 ((rd_T26 l0 x7_1).f1.f0))).setCell ⟨gb124, 2, none⟩ (.int .i32 ((rd_T26 l0 x7_1).f1.f1))).setCell ⟨gb124, 3, none⟩ (.int .u8 ((rd_T26 l0 x7_1).f2))).setCell ⟨gb124, 4, none⟩ (.int .u8 ((rd_T26 l0 x7_1).f3.f0))).setCell ⟨gb124, 5, none⟩ (.int .u8 ((rd_T26 l0 x7_1).f3.f1))).setCell ⟨gb124, 6, none⟩ (.int .u8 ((rd_T26 l0 x7_1).f3.f2)))) := ⟨by repeat (first | (with_reducible first | exact HB.out | apply below_alloc | apply pw_below_drewN | apply below_drew1 | refine below_set ?_ GE124.out) | exact HB.out)⟩
                (try clear BK124)
                (try clear HB)
                generalize (((((((w9.setCell ⟨gb124, 0, none⟩ (.int .i32 ((rd_T26 l0 x7_1).f0))).setCell ⟨gb124, 1, none⟩ (.int .i32 ((rd_T26 l0 x7_1).f1.f0))).setCell ⟨gb124, 2, none⟩ (.int .i32 ((rd_T26 l0 x7_1).f1.f1))).setCell ⟨gb124, 3, none⟩ (.int .u8 ((rd_T26 l0 x7_1).f2))).setCell ⟨gb124, 4, none⟩ (.int .u8 ((rd_T26 l0 x7_1).f3.f0))).setCell ⟨gb124, 5, none⟩ (.int .u8 ((rd_T26 l0 x7_1).f3.f1))).setCell ⟨gb124, 6, none⟩ (.int .u8 ((rd_T26 l0 x7_1).f3.f2))) = w11 at n0_ n1_ ⊢
                have BK124 := n0_
                have HB := n1_
                clear n0_ n1_
                have n0_ := Aside0.mk (blk_drew BK124.out)
                have n1_ := Aside0.mk (below_drew1 HB.out)
                clear BK124
                clear HB
                have BK124 := n0_
                have HB := n1_
                clear n0_ n1_
                refine start_ (n := 24) (S := fun w' => w'.cell? ⟨gb124, 0, none⟩ = some (.int .i32 ((rd_T26 l0 x7_1).f0)) ∧ w'.cell? ⟨gb124, 1, none⟩ = some (.int .i32 ((rd_T26 l0 x7_1).f1.f0)) ∧ w'.cell? ⟨gb124, 2, none⟩ = some (.int .i32 ((rd_T26 l0 x7_1).f1.f1)) ∧ w'.cell? ⟨gb124, 3, none⟩ = some (.int .u8 ((rd_T26 l0 x7_1).f2)) ∧ w'.cell? ⟨gb124, 4, none⟩ = some (.int .u8 ((rd_T26 l0 x7_1).f3.f0)) ∧ w'.cell? ⟨gb124, 5, none⟩ = some (.int .u8 ((rd_T26 l0 x7_1).f3.f1)) ∧ w'.cell? ⟨gb124, 6, none⟩ = some (.int .u8 ((rd_T26 l0 x7_1).f3.f2))) (ds := []) #[false, false, false, false, false, false, false, false, false, false, false, false, false, false, false, false, false, false, false, false, false, false, false, false] (by kernel_rfl) rfl rfl ⟨(blk_cell BK124.out 0).trans rfl, (blk_cell BK124.out 1).trans rfl, (blk_cell BK124.out 2).trans rfl, (blk_cell BK124.out 3).trans rfl, (blk_cell BK124.out 4).trans rfl, (blk_cell BK124.out 5).trans rfl, (blk_cell BK124.out 6).trans rfl⟩ (fun hHeld => ?_); refine with_tabW line_Right.tab4 line_Right.bits4 (fun HT_ HW_ => ?_)
                generalize w11.drew = w12 at BK124 HB hHeld ⊢
                refine take_ (i := 0) (N := some 12) (v := ?_) (a' := ?_) #[true, false, false, false, false, false, false, false, false, false, false, false, false, false, false, false, false, false, false, false, false, false, false, false] rfl rfl (take_ofW HT_.out HW_.out (by kernel_rfl)) (fun _ _ _ h => h) (Or.inl ⟨by rfl, ?_⟩) hHeld ?_ ?_
                rotate_left
                · rintro w' ⟨s0, s1, s2, s3, s4, s5, s6⟩
                  go_simp
                  with_reducible rfl
                rotate_left
                · simp only [Act.put, List.setIfInBounds_toArray, List.set_cons_zero, List.set_cons_succ, i64_w, i32_w]
                  rfl
                refine one_ (i := 1) (N := some 13) #[true, true, false, false, false, false, false, false, false, false, false, false, false, false, false, false, false, false, false, false, false, false, false, false] rfl rfl (one_of HT_.out (by kernel_rfl)) (by decide) (fun K hK => ?_)
                refine goes_ Try.func26 (by kernel_rfl) rfl #[.agg #[.int .i32 ((rd_T26 l0 x7_1).f0), .int .i32 ((rd_T26 l0 x7_1).f1.f0), .int .i32 ((rd_T26 l0 x7_1).f1.f1), .int .u8 ((rd_T26 l0 x7_1).f2), .int .u8 ((rd_T26 l0 x7_1).f3.f0), .int .u8 ((rd_T26 l0 x7_1).f3.f1), .int .u8 ((rd_T26 l0 x7_1).f3.f2)]] (by rfl) rfl rfl (by (try simp only [List.map_toArray, List.map_cons, List.map_nil]); first | done | rfl | (simp only [List.length_drop, List.length_take]; rfl)) ?_
                with_reducible refine (cell_Right.calls ((rd_T26 l0 x7_1).f0) ((rd_T26 l0 x7_1).f1.f0) ((rd_T26 l0 x7_1).f1.f1) ((rd_T26 l0 x7_1).f2) ((rd_T26 l0 x7_1).f3.f0) ((rd_T26 l0 x7_1).f3.f1) ((rd_T26 l0 x7_1).f3.f2) true _ A5.out).mono ?_
                rintro e w13 ⟨rfl, hb⟩
                refine ⟨_, rfl, ?_⟩
                have n0_ := Aside0.mk (blk_below (g := gb124) (o := .cells #[.int .i32 ((rd_T26 l0 x7_1).f0), .int .i32 ((rd_T26 l0 x7_1).f1.f0), .int .i32 ((rd_T26 l0 x7_1).f1.f1), .int .u8 ((rd_T26 l0 x7_1).f2), .int .u8 ((rd_T26 l0 x7_1).f3.f0), .int .u8 ((rd_T26 l0 x7_1).f3.f1), .int .u8 ((rd_T26 l0 x7_1).f3.f2)] 26 (0, 0)) (by (with_reducible repeat (first | refine blk_drewN ?_ _ | refine blk_drew ?_ | refine blk_alloc ?_ _)); exact BK124.out) hb)
                have n1_ := Aside0.mk (below_step (by repeat (first | (with_reducible first | exact HB.out | apply below_alloc | apply pw_below_drewN | apply below_drew1 | refine below_set ?_ GE124.out) | exact HB.out)) hb)
                clear BK124
                clear HB
                have BK124 := n0_
                have HB := n1_
                clear n0_ n1_
                (try clear hb)
                (try clear hb2)
                (try clear hk)
                (try clear hi)
                refine hK.out _ _ ⟨(blk_cell BK124.out 0).trans rfl, (blk_cell BK124.out 1).trans rfl, (blk_cell BK124.out 2).trans rfl, (blk_cell BK124.out 3).trans rfl, (blk_cell BK124.out 4).trans rfl, (blk_cell BK124.out 5).trans rfl, (blk_cell BK124.out 6).trans rfl⟩ (fun hHeld => ?_)
                clear hK K
                refine norm_ (a' := ?_) ?_ ?_
                rotate_left
                · show Act.put _ (some 13) _ = _
                  simp only [Act.put, List.setIfInBounds_toArray, List.set_cons_zero, List.set_cons_succ, i64_w, i32_w]
                  rfl
                refine pure_ (i := 2) (N := some 14) (v := ?_) (a' := ?_) #[true, true, true, false, false, false, false, false, false, false, false, false, false, false, false, false, false, false, false, false, false, false, false, false] rfl rfl (any_of HT_.out (by kernel_rfl)) (fun _ _ _ h => h) (Or.inl ⟨by rfl, ?_⟩) ?_ ?_
                rotate_left
                · intro w'
                  go_simp
                  with_reducible rfl
                rotate_left
                · simp only [Act.put, List.setIfInBounds_toArray, List.set_cons_zero, List.set_cons_succ, i64_w, i32_w]
                  rfl
                refine pure_ (i := 3) (N := some 15) (v := ?_) (a' := ?_) #[true, true, true, true, false, false, false, false, false, false, false, false, false, false, false, false, false, false, false, false, false, false, false, false] rfl rfl (any_of HT_.out (by kernel_rfl)) (fun _ _ _ h => h) (Or.inl ⟨by rfl, ?_⟩) ?_ ?_
                rotate_left
                · intro w'
                  go_simp
                  with_reducible rfl
                rotate_left
                · simp only [Act.put, List.setIfInBounds_toArray, List.set_cons_zero, List.set_cons_succ, i64_w, i32_w]
                  rfl
                refine pure_ (i := 4) (N := some 16) (v := ?_) (a' := ?_) #[true, true, true, true, true, false, false, false, false, false, false, false, false, false, false, false, false, false, false, false, false, false, false, false] rfl rfl (any_of HT_.out (by kernel_rfl)) (fun _ _ _ h => h) (Or.inl ⟨by rfl, ?_⟩) ?_ ?_
                rotate_left
                · intro w'
                  go_simp
                  with_reducible rfl
                rotate_left
                · simp only [Act.put, List.setIfInBounds_toArray, List.set_cons_zero, List.set_cons_succ, i64_w, i32_w]
                  rfl
                refine pure_ (i := 5) (N := some 17) (v := ?_) (a' := ?_) #[true, true, true, true, true, true, false, false, false, false, false, false, false, false, false, false, false, false, false, false, false, false, false, false] rfl rfl (any_of HT_.out (by kernel_rfl)) (fun _ _ _ h => h) (Or.inl ⟨by rfl, ?_⟩) ?_ ?_
                rotate_left
                · intro w'
                  go_simp
                  with_reducible rfl
                rotate_left
                · simp only [Act.put, List.setIfInBounds_toArray, List.set_cons_zero, List.set_cons_succ, i64_w, i32_w]
                  rfl
                refine one_ (i := 6) (N := some 18) #[true, true, true, true, true, true, true, false, false, false, false, false, false, false, false, false, false, false, false, false, false, false, false, false] rfl rfl (one_of HT_.out (by kernel_rfl)) (by decide) (fun K hK => ?_)
                refine goes_ Try.func94 (by kernel_rfl) rfl #[.slice (some ad123) l0.length c0, .int .i64 x7_1] (by rfl) rfl rfl (by (try simp only [List.map_toArray, List.map_cons, List.map_nil]); first | done | rfl | (simp only [List.length_drop, List.length_take]; rfl)) ?_
                with_reducible refine (line_alone.calls _ _ l0 x7_1 true _ ?side1 ?side2 A7.out).mono ?_
                (case side1 => repeat (first | exact (Kd.C_below HR0.out HB.out) | (with_reducible refine Kd.C_alloc ?_ _) | (with_reducible refine Kd.C_drewN ?_ _) | (with_reducible refine Kd.C_drew ?_)))
                (case side2 => exact HC0.out)
                rintro e w14 ⟨rfl, hb⟩
                refine ⟨_, rfl, ?_⟩
                have n0_ := Aside0.mk (blk_below (g := gb124) (o := .cells #[.int .i32 ((rd_T26 l0 x7_1).f0), .int .i32 ((rd_T26 l0 x7_1).f1.f0), .int .i32 ((rd_T26 l0 x7_1).f1.f1), .int .u8 ((rd_T26 l0 x7_1).f2), .int .u8 ((rd_T26 l0 x7_1).f3.f0), .int .u8 ((rd_T26 l0 x7_1).f3.f1), .int .u8 ((rd_T26 l0 x7_1).f3.f2)] 26 (0, 0)) (by (with_reducible repeat (first | refine blk_drewN ?_ _ | refine blk_drew ?_ | refine blk_alloc ?_ _)); exact BK124.out) hb)
                have n1_ := Aside0.mk (below_step (by repeat (first | (with_reducible first | exact HB.out | apply below_alloc | apply pw_below_drewN | apply below_drew1 | refine below_set ?_ GE124.out) | exact HB.out)) hb)
                clear BK124
                clear HB
                have BK124 := n0_
                have HB := n1_
                clear n0_ n1_
                (try clear hb)
                (try clear hb2)
                (try clear hk)
                (try clear hi)
                refine hK.out _ _ ⟨(blk_cell BK124.out 0).trans rfl, (blk_cell BK124.out 1).trans rfl, (blk_cell BK124.out 2).trans rfl, (blk_cell BK124.out 3).trans rfl, (blk_cell BK124.out 4).trans rfl, (blk_cell BK124.out 5).trans rfl, (blk_cell BK124.out 6).trans rfl⟩ (fun hHeld => ?_)
                clear hK K
                refine norm_ (a' := ?_) ?_ ?_
                rotate_left
                · show Act.put _ (some 18) _ = _
                  simp only [Act.put, List.setIfInBounds_toArray, List.set_cons_zero, List.set_cons_succ, i64_w, i32_w]
                  rfl
                refine pure_ (i := 7) (N := some 19) (v := ?_) (a' := ?_) #[true, true, true, true, true, true, true, true, false, false, false, false, false, false, false, false, false, false, false, false, false, false, false, false] rfl rfl (any_of HT_.out (by kernel_rfl)) (fun _ _ _ h => h) (Or.inl ⟨by rfl, ?_⟩) ?_ ?_
                rotate_left
                · intro w'
                  go_simp
                  with_reducible rfl
                rotate_left
                · simp only [Act.put, List.setIfInBounds_toArray, List.set_cons_zero, List.set_cons_succ, i64_w, i32_w]
                  rfl
                refine pure_ (i := 8) (N := some 20) (v := ?_) (a' := ?_) #[true, true, true, true, true, true, true, true, true, false, false, false, false, false, false, false, false, false, false, false, false, false, false, false] rfl rfl (any_of HT_.out (by kernel_rfl)) (fun _ _ _ h => h) (Or.inl ⟨by rfl, ?_⟩) ?_ ?_
                rotate_left
                · intro w'
                  go_simp
                  with_reducible rfl
                rotate_left
                · simp only [Act.put, List.setIfInBounds_toArray, List.set_cons_zero, List.set_cons_succ, i64_w, i32_w]
                  rfl
                refine pure_ (i := 9) (N := some 21) (v := undef) (a' := ?_) #[true, true, true, true, true, true, true, true, true, true, false, false, false, false, false, false, false, false, false, false, false, false, false, false] rfl rfl (any_of HT_.out (by kernel_rfl)) (fun _ _ _ h => h) (Or.inr ⟨by rfl, rfl⟩) ?_ ?_
                rotate_left
                · simp only [Act.put, List.setIfInBounds_toArray, List.set_cons_zero, List.set_cons_succ, i64_w, i32_w]
                  rfl
                refine pure_ (i := 10) (N := some 22) (v := undef) (a' := ?_) #[true, true, true, true, true, true, true, true, true, true, true, false, false, false, false, false, false, false, false, false, false, false, false, false] rfl rfl (any_of HT_.out (by kernel_rfl)) (fun _ _ _ h => h) (Or.inr ⟨by rfl, rfl⟩) ?_ ?_
                rotate_left
                · simp only [Act.put, List.setIfInBounds_toArray, List.set_cons_zero, List.set_cons_succ, i64_w, i32_w]
                  rfl
                refine pure_ (i := 11) (N := some 23) (v := undef) (a' := ?_) #[true, true, true, true, true, true, true, true, true, true, true, true, false, false, false, false, false, false, false, false, false, false, false, false] rfl rfl (any_of HT_.out (by kernel_rfl)) (fun _ _ _ h => h) (Or.inr ⟨by rfl, rfl⟩) ?_ ?_
                rotate_left
                · simp only [Act.put, List.setIfInBounds_toArray, List.set_cons_zero, List.set_cons_succ, i64_w, i32_w]
                  rfl
                refine pure_ (i := 12) (N := some 24) (v := undef) (a' := ?_) #[true, true, true, true, true, true, true, true, true, true, true, true, true, false, false, false, false, false, false, false, false, false, false, false] rfl rfl (any_of HT_.out (by kernel_rfl)) (fun _ _ _ h => h) (Or.inr ⟨by rfl, rfl⟩) ?_ ?_
                rotate_left
                · simp only [Act.put, List.setIfInBounds_toArray, List.set_cons_zero, List.set_cons_succ, i64_w, i32_w]
                  rfl
                refine pure_ (i := 13) (N := some 25) (v := undef) (a' := ?_) #[true, true, true, true, true, true, true, true, true, true, true, true, true, true, false, false, false, false, false, false, false, false, false, false] rfl rfl (any_of HT_.out (by kernel_rfl)) (fun _ _ _ h => h) (Or.inr ⟨by rfl, rfl⟩) ?_ ?_
                rotate_left
                · simp only [Act.put, List.setIfInBounds_toArray, List.set_cons_zero, List.set_cons_succ, i64_w, i32_w]
                  rfl
                refine pure_ (i := 14) (N := some 26) (v := undef) (a' := ?_) #[true, true, true, true, true, true, true, true, true, true, true, true, true, true, true, false, false, false, false, false, false, false, false, false] rfl rfl (any_of HT_.out (by kernel_rfl)) (fun _ _ _ h => h) (Or.inr ⟨by rfl, rfl⟩) ?_ ?_
                rotate_left
                · simp only [Act.put, List.setIfInBounds_toArray, List.set_cons_zero, List.set_cons_succ, i64_w, i32_w]
                  rfl
                refine pure_ (i := 15) (N := some 27) (v := undef) (a' := ?_) #[true, true, true, true, true, true, true, true, true, true, true, true, true, true, true, true, false, false, false, false, false, false, false, false] rfl rfl (any_of HT_.out (by kernel_rfl)) (fun _ _ _ h => h) (Or.inr ⟨by rfl, rfl⟩) ?_ ?_
                rotate_left
                · simp only [Act.put, List.setIfInBounds_toArray, List.set_cons_zero, List.set_cons_succ, i64_w, i32_w]
                  rfl
                refine pure_ (i := 16) (N := some 28) (v := undef) (a' := ?_) #[true, true, true, true, true, true, true, true, true, true, true, true, true, true, true, true, true, false, false, false, false, false, false, false] rfl rfl (any_of HT_.out (by kernel_rfl)) (fun _ _ _ h => h) (Or.inr ⟨by rfl, rfl⟩) ?_ ?_
                rotate_left
                · simp only [Act.put, List.setIfInBounds_toArray, List.set_cons_zero, List.set_cons_succ, i64_w, i32_w]
                  rfl
                refine pure_ (i := 17) (N := some 29) (v := undef) (a' := ?_) #[true, true, true, true, true, true, true, true, true, true, true, true, true, true, true, true, true, true, false, false, false, false, false, false] rfl rfl (any_of HT_.out (by kernel_rfl)) (fun _ _ _ h => h) (Or.inr ⟨by rfl, rfl⟩) ?_ ?_
                rotate_left
                · simp only [Act.put, List.setIfInBounds_toArray, List.set_cons_zero, List.set_cons_succ, i64_w, i32_w]
                  rfl
                refine pure_ (i := 18) (N := some 30) (v := undef) (a' := ?_) #[true, true, true, true, true, true, true, true, true, true, true, true, true, true, true, true, true, true, true, false, false, false, false, false] rfl rfl (any_of HT_.out (by kernel_rfl)) (fun _ _ _ h => h) (Or.inr ⟨by rfl, rfl⟩) ?_ ?_
                rotate_left
                · simp only [Act.put, List.setIfInBounds_toArray, List.set_cons_zero, List.set_cons_succ, i64_w, i32_w]
                  rfl
                refine pure_ (i := 19) (N := some 31) (v := undef) (a' := ?_) #[true, true, true, true, true, true, true, true, true, true, true, true, true, true, true, true, true, true, true, true, false, false, false, false] rfl rfl (any_of HT_.out (by kernel_rfl)) (fun _ _ _ h => h) (Or.inr ⟨by rfl, rfl⟩) ?_ ?_
                rotate_left
                · simp only [Act.put, List.setIfInBounds_toArray, List.set_cons_zero, List.set_cons_succ, i64_w, i32_w]
                  rfl
                refine pure_ (i := 20) (N := some 32) (v := undef) (a' := ?_) #[true, true, true, true, true, true, true, true, true, true, true, true, true, true, true, true, true, true, true, true, true, false, false, false] rfl rfl (any_of HT_.out (by kernel_rfl)) (fun _ _ _ h => h) (Or.inr ⟨by rfl, rfl⟩) ?_ ?_
                rotate_left
                · simp only [Act.put, List.setIfInBounds_toArray, List.set_cons_zero, List.set_cons_succ, i64_w, i32_w]
                  rfl
                refine pure_ (i := 21) (N := some 33) (v := undef) (a' := ?_) #[true, true, true, true, true, true, true, true, true, true, true, true, true, true, true, true, true, true, true, true, true, true, false, false] rfl rfl (any_of HT_.out (by kernel_rfl)) (fun _ _ _ h => h) (Or.inr ⟨by rfl, rfl⟩) ?_ ?_
                rotate_left
                · simp only [Act.put, List.setIfInBounds_toArray, List.set_cons_zero, List.set_cons_succ, i64_w, i32_w]
                  rfl
                refine pure_ (i := 22) (N := some 34) (v := undef) (a' := ?_) #[true, true, true, true, true, true, true, true, true, true, true, true, true, true, true, true, true, true, true, true, true, true, true, false] rfl rfl (any_of HT_.out (by kernel_rfl)) (fun _ _ _ h => h) (Or.inr ⟨by rfl, rfl⟩) ?_ ?_
                rotate_left
                · simp only [Act.put, List.setIfInBounds_toArray, List.set_cons_zero, List.set_cons_succ, i64_w, i32_w]
                  rfl
                refine pure_ (i := 23) (N := some 35) (v := ?_) (a' := ?_) #[true, true, true, true, true, true, true, true, true, true, true, true, true, true, true, true, true, true, true, true, true, true, true, true] rfl rfl (any_of HT_.out (by kernel_rfl)) (fun _ _ _ h => h) (Or.inl ⟨by rfl, ?_⟩) ?_ ?_
                rotate_left
                · intro w'
                  go_simp
                  with_reducible rfl
                rotate_left
                · simp only [Act.put, List.setIfInBounds_toArray, List.set_cons_zero, List.set_cons_succ, i64_w, i32_w]
                  rfl
                refine done_ (done_of HT_.out (by kernel_rfl)) ?_
                try go_wp2
                go_ret
                exact ⟨by first | rfl | (simp [errW_none, errW_some] <;> rfl) | (simp [*, errW_none, errW_some] <;> rfl), by repeat (first | (with_reducible first | exact HB.out | apply below_alloc | apply pw_below_drewN | apply below_drew1 | refine below_set ?_ GE124.out) | exact HB.out)⟩
              · replace c8 := Bool.eq_false_iff.mpr c8
                subst c8
                have H1 : (if ((rd_T26 l0 x7_1).f2) = 0 then (if 0 ≤ (wrap64 (x7_1 - 1)) then (if (wrap64 (x7_1 - 1)) < (l0.length : Int) then (if (!(((rd_T26 l0 (wrap64 (x7_1 - 1))).f3.f0) == ((rd_T26 l0 x7_1).f3.f0)) || (!(((rd_T26 l0 (wrap64 (x7_1 - 1))).f3.f1) == ((rd_T26 l0 x7_1).f3.f1)) || (!(((rd_T26 l0 (wrap64 (x7_1 - 1))).f3.f2) == ((rd_T26 l0 x7_1).f3.f2))))) = true then (some false) else (line_Right.l0 k1 l0 l0 (l0.length : Int) (wrap64 (x7_1 + 1)))) else (none)) else (none)) else (line_Right.l0 k1 l0 l0 (l0.length : Int) (wrap64 (x7_1 + 1)))) = some r := by rw [if_neg (show ¬ (false = true) by decide)] at H; exact H
                clear H
                have H := H1
                clear H1
                by_cases c15 : ((rd_T26 l0 x7_1).f2) = 0
                · rw [if_pos c15] at H
                  have c15b0 : (((rd_T26 l0 x7_1).f2) == 0) = true := beq_iff_eq.mpr c15
                  have c15b1 : (((rd_T26 l0 x7_1).f2) != 0) = false := bne_eq_false_iff_eq.mpr c15
                  clear c15
                  obtain ⟨ji16, hji16⟩ : ∃ j_ : Int, (wrap64 (x7_1 - 1)) = j_ := ⟨_, rfl⟩
                  replace H : (if 0 ≤ (ji16) then (if (ji16) < (l0.length : Int) then (if (!(((rd_T26 l0 (ji16)).f3.f0) == ((rd_T26 l0 x7_1).f3.f0)) || (!(((rd_T26 l0 (ji16)).f3.f1) == ((rd_T26 l0 x7_1).f3.f1)) || (!(((rd_T26 l0 (ji16)).f3.f2) == ((rd_T26 l0 x7_1).f3.f2))))) = true then (some false) else (line_Right.l0 k1 l0 l0 (l0.length : Int) (wrap64 (x7_1 + 1)))) else (none)) else (none)) = some r := by first | (rw [hji16] at H; exact H) | (simp only [hji16] at H ⊢; exact H)
                  (try rw [hji16] at A5)
                  (try rw [hji16] at A7)
                  have hji16w : (IntKind.i64.wrap (x7_1 - 1)) = ji16 := (i64_w _).trans hji16
                  by_cases c17 : 0 ≤ (ji16)
                  · rw [if_pos c17] at H
                    have c17b0 : decide (0 ≤ (ji16)) = true := decide_eq_true c17
                    clear c17
                    by_cases c18 : (ji16) < (l0.length : Int)
                    · rw [if_pos c18] at H
                      have c18b0 : decide ((ji16) < (l0.length : Int)) = true := decide_eq_true c18
                      clear c18
                      by_cases c19 : (!(((rd_T26 l0 (ji16)).f3.f0) == ((rd_T26 l0 x7_1).f3.f0)) || (!(((rd_T26 l0 (ji16)).f3.f1) == ((rd_T26 l0 x7_1).f3.f1)) || (!(((rd_T26 l0 (ji16)).f3.f2) == ((rd_T26 l0 x7_1).f3.f2))))) = true
                      · rw [if_pos c19] at H
                        have c19b0 : (!(((rd_T26 l0 (ji16)).f3.f0) == ((rd_T26 l0 x7_1).f3.f0)) || (!(((rd_T26 l0 (ji16)).f3.f1) == ((rd_T26 l0 x7_1).f3.f1)) || (!(((rd_T26 l0 (ji16)).f3.f2) == ((rd_T26 l0 x7_1).f3.f2))))) = true := c19
                        clear c19
                        obtain rfl := Option.some.inj H
                        have p123 : 0 ≤ (x7_1 : Int) := of_decide_eq_true (by first | (with_reducible assumption) | assumption)
                        have q123 : x7_1 < (l0.length : Int) := of_decide_eq_true (by first | (with_reducible assumption) | assumption)
                        obtain ⟨ad123, e123, hx123_0, hx123_1, hx123_2, hx123_3, hx123_4, hx123_5, hx123_6⟩ := at_T26 HR0.out x7_1 p123 q123
                        cases e123
                        replace hx123_0 := (HB.out.cell (World.block_lt_of_cell? w _ hx123_0)).trans hx123_0
                        replace hx123_1 := (HB.out.cell (World.block_lt_of_cell? w _ hx123_1)).trans hx123_1
                        replace hx123_2 := (HB.out.cell (World.block_lt_of_cell? w _ hx123_2)).trans hx123_2
                        replace hx123_3 := (HB.out.cell (World.block_lt_of_cell? w _ hx123_3)).trans hx123_3
                        replace hx123_4 := (HB.out.cell (World.block_lt_of_cell? w _ hx123_4)).trans hx123_4
                        replace hx123_5 := (HB.out.cell (World.block_lt_of_cell? w _ hx123_5)).trans hx123_5
                        replace hx123_6 := (HB.out.cell (World.block_lt_of_cell? w _ hx123_6)).trans hx123_6
                        replace p123 := eq_true p123
                        replace q123 := eq_true q123
                        try go_wp2_with (first | ((with_reducible refine gate_dst (N := 4) rfl ?_); refine box_event ?hg (N := 4) ?hd (cs := #[.int .i32 0, .int .i32 0, .int .i32 0, .int .u8 0, .int .u8 0, .int .u8 0, .int .u8 0]) (t := 26) ?hr ?_; (case hd => rfl); (case hg => rfl); (case hr => first | (go_simp; done) | (go_simp; rfl)); intro gb124 hg w20 hbox hb; have n0_ := Aside0.mk (below_step (by repeat (first | (with_reducible first | exact HB.out | apply below_alloc | apply pw_below_drewN | apply below_drew1) | exact HB.out)) hb); have n1_ := Aside0.mk (hbox); have n2_ := Aside0.mk ((by rw [hg]; exact (below_size (by repeat (first | (with_reducible first | exact HB.out | apply below_alloc | apply pw_below_drewN | apply below_drew1) | exact HB.out))) : w.heap.size ≤ gb124)); have n3_ := Aside0.mk ((by rw [hg]; exact (below_size (by repeat (first | (with_reducible first | exact HB.out | apply below_alloc | apply pw_below_drewN | apply below_drew1) | exact HB.out))) : w.heap.size ≤ gb124)); clear HB; have HB := n0_; have BK124 := n1_; have GW124 := n2_; have GE124 := n3_; clear n0_ n1_ n2_ n3_; clear hb hbox hg; have hcz21_0 : w20.cell? ⟨gb124, 0, none⟩ = some (.int .i32 0) := (blk_cell BK124.out 0).trans rfl; have hcz21_1 : w20.cell? ⟨gb124, 1, none⟩ = some (.int .i32 0) := (blk_cell BK124.out 1).trans rfl; have hcz21_2 : w20.cell? ⟨gb124, 2, none⟩ = some (.int .i32 0) := (blk_cell BK124.out 2).trans rfl; have hcz21_3 : w20.cell? ⟨gb124, 3, none⟩ = some (.int .u8 0) := (blk_cell BK124.out 3).trans rfl; have hcz21_4 : w20.cell? ⟨gb124, 4, none⟩ = some (.int .u8 0) := (blk_cell BK124.out 4).trans rfl; have hcz21_5 : w20.cell? ⟨gb124, 5, none⟩ = some (.int .u8 0) := (blk_cell BK124.out 5).trans rfl; have hcz21_6 : w20.cell? ⟨gb124, 6, none⟩ = some (.int .u8 0) := (blk_cell BK124.out 6).trans rfl; have hfz21_0 := blk_frozen BK124.out 0; have hfz21_1 := blk_frozen BK124.out 1; have hfz21_2 := blk_frozen BK124.out 2; have hfz21_3 := blk_frozen BK124.out 3; have hfz21_4 := blk_frozen BK124.out 4; have hfz21_5 := blk_frozen BK124.out 5; have hfz21_6 := blk_frozen BK124.out 6))
                        have n0_ : Aside0 ((((((((w20.setCell ⟨gb124, 0, none⟩ (.int .i32 ((rd_T26 l0 x7_1).f0))).setCell ⟨gb124, 1, none⟩ (.int .i32 ((rd_T26 l0 x7_1).f1.f0))).setCell ⟨gb124, 2, none⟩ (.int .i32 ((rd_T26 l0 x7_1).f1.f1))).setCell ⟨gb124, 3, none⟩ (.int .u8 ((rd_T26 l0 x7_1).f2))).setCell ⟨gb124, 4, none⟩ (.int .u8 ((rd_T26 l0 x7_1).f3.f0))).setCell ⟨gb124, 5, none⟩ (.int .u8 ((rd_T26 l0 x7_1).f3.f1))).setCell ⟨gb124, 6, none⟩ (.int .u8 ((rd_T26 l0 x7_1).f3.f2))).heap[gb124]? = some (.cells #[.int .i32 ((rd_T26 l0 x7_1).f0), .int .i32 ((rd_T26 l0 x7_1).f1.f0), .int .i32 ((rd_T26 l0 x7_1).f1.f1), .int .u8 ((rd_T26 l0 x7_1).f2), .int .u8 ((rd_T26 l0 x7_1).f3.f0), .int .u8 ((rd_T26 l0 x7_1).f3.f1), .int .u8 ((rd_T26 l0 x7_1).f3.f2)] 26 (0, 0))) := ⟨by (with_reducible repeat (first | refine blk_drewN ?_ _ | refine blk_drew ?_ | refine blk_alloc ?_ _)); refine blk_put (cs := #[.int .i32 ((rd_T26 l0 x7_1).f0), .int .i32 ((rd_T26 l0 x7_1).f1.f0), .int .i32 ((rd_T26 l0 x7_1).f1.f1), .int .u8 ((rd_T26 l0 x7_1).f2), .int .u8 ((rd_T26 l0 x7_1).f3.f0), .int .u8 ((rd_T26 l0 x7_1).f3.f1), .int .u8 0]) ?_ 6 _ rfl; (with_reducible repeat (first | refine blk_drewN ?_ _ | refine blk_drew ?_ | refine blk_alloc ?_ _)); refine blk_put (cs := #[.int .i32 ((rd_T26 l0 x7_1).f0), .int .i32 ((rd_T26 l0 x7_1).f1.f0), .int .i32 ((rd_T26 l0 x7_1).f1.f1), .int .u8 ((rd_T26 l0 x7_1).f2), .int .u8 ((rd_T26 l0 x7_1).f3.f0), .int .u8 0, .int .u8 0]) ?_ 5 _ rfl; (with_reducible repeat (first | refine blk_drewN ?_ _ | refine blk_drew ?_ | refine blk_alloc ?_ _)); refine blk_put (cs := #[.int .i32 ((rd_T26 l0 x7_1).f0), .int .i32 ((rd_T26 l0 x7_1).f1.f0), .int .i32 ((rd_T26 l0 x7_1).f1.f1), .int .u8 ((rd_T26 l0 x7_1).f2), .int .u8 0, .int .u8 0, .int .u8 0]) ?_ 4 _ rfl; (with_reducible repeat (first | refine blk_drewN ?_ _ | refine blk_drew ?_ | refine blk_alloc ?_ _)); refine blk_put (cs := #[.int .i32 ((rd_T26 l0 x7_1).f0), .int .i32 ((rd_T26 l0 x7_1).f1.f0), .int .i32 ((rd_T26 l0 x7_1).f1.f1), .int .u8 0, .int .u8 0, .int .u8 0, .int .u8 0]) ?_ 3 _ rfl; (with_reducible repeat (first | refine blk_drewN ?_ _ | refine blk_drew ?_ | refine blk_alloc ?_ _)); refine blk_put (cs := #[.int .i32 ((rd_T26 l0 x7_1).f0), .int .i32 ((rd_T26 l0 x7_1).f1.f0), .int .i32 0, .int .u8 0, .int .u8 0, .int .u8 0, .int .u8 0]) ?_ 2 _ rfl; (with_reducible repeat (first | refine blk_drewN ?_ _ | refine blk_drew ?_ | refine blk_alloc ?_ _)); refine blk_put (cs := #[.int .i32 ((rd_T26 l0 x7_1).f0), .int .i32 0, .int .i32 0, .int .u8 0, .int .u8 0, .int .u8 0, .int .u8 0]) ?_ 1 _ rfl; (with_reducible repeat (first | refine blk_drewN ?_ _ | refine blk_drew ?_ | refine blk_alloc ?_ _)); refine blk_put (cs := #[.int .i32 0, .int .i32 0, .int .i32 0, .int .u8 0, .int .u8 0, .int .u8 0, .int .u8 0]) ?_ 0 _ rfl; (with_reducible repeat (first | refine blk_drewN ?_ _ | refine blk_drew ?_ | refine blk_alloc ?_ _)); exact BK124.out⟩
                        have n1_ : Aside0 (Below w.heap.size w (((((((w20.setCell ⟨gb124, 0, none⟩ (.int .i32 ((rd_T26 l0 x7_1).f0))).setCell ⟨gb124, 1, none⟩ (.int .i32 ((rd_T26 l0 x7_1).f1.f0))).setCell ⟨gb124, 2, none⟩ (.int .i32 ((rd_T26 l0 x7_1).f1.f1))).setCell ⟨gb124, 3, none⟩ (.int .u8 ((rd_T26 l0 x7_1).f2))).setCell ⟨gb124, 4, none⟩ (.int .u8 ((rd_T26 l0 x7_1).f3.f0))).setCell ⟨gb124, 5, none⟩ (.int .u8 ((rd_T26 l0 x7_1).f3.f1))).setCell ⟨gb124, 6, none⟩ (.int .u8 ((rd_T26 l0 x7_1).f3.f2)))) := ⟨by repeat (first | (with_reducible first | exact HB.out | apply below_alloc | apply pw_below_drewN | apply below_drew1 | refine below_set ?_ GE124.out) | exact HB.out)⟩
                        (try clear BK124)
                        (try clear HB)
                        generalize (((((((w20.setCell ⟨gb124, 0, none⟩ (.int .i32 ((rd_T26 l0 x7_1).f0))).setCell ⟨gb124, 1, none⟩ (.int .i32 ((rd_T26 l0 x7_1).f1.f0))).setCell ⟨gb124, 2, none⟩ (.int .i32 ((rd_T26 l0 x7_1).f1.f1))).setCell ⟨gb124, 3, none⟩ (.int .u8 ((rd_T26 l0 x7_1).f2))).setCell ⟨gb124, 4, none⟩ (.int .u8 ((rd_T26 l0 x7_1).f3.f0))).setCell ⟨gb124, 5, none⟩ (.int .u8 ((rd_T26 l0 x7_1).f3.f1))).setCell ⟨gb124, 6, none⟩ (.int .u8 ((rd_T26 l0 x7_1).f3.f2))) = w22 at n0_ n1_ ⊢
                        have BK124 := n0_
                        have HB := n1_
                        clear n0_ n1_
                        have n0_ := Aside0.mk (blk_drew BK124.out)
                        have n1_ := Aside0.mk (below_drew1 HB.out)
                        clear BK124
                        clear HB
                        have BK124 := n0_
                        have HB := n1_
                        clear n0_ n1_
                        have p127 : 0 ≤ ((ji16) : Int) := of_decide_eq_true (by first | (with_reducible assumption) | assumption)
                        have q127 : (ji16) < (l0.length : Int) := of_decide_eq_true (by first | (with_reducible assumption) | assumption)
                        obtain ⟨ad127, e127, hx127_0, hx127_1, hx127_2, hx127_3, hx127_4, hx127_5, hx127_6⟩ := at_T26 HR0.out (ji16) p127 q127
                        have hw127_6 := hx127_6
                        have hw127_5 := hx127_5
                        have hw127_4 := hx127_4
                        have hw127_3 := hx127_3
                        have hw127_2 := hx127_2
                        have hw127_1 := hx127_1
                        have hw127_0 := hx127_0
                        obtain rfl : ad123 = ad127 := (by injection e127)
                        replace hx127_0 := (HB.out.cell (World.block_lt_of_cell? w _ hx127_0)).trans hx127_0
                        replace hx127_1 := (HB.out.cell (World.block_lt_of_cell? w _ hx127_1)).trans hx127_1
                        replace hx127_2 := (HB.out.cell (World.block_lt_of_cell? w _ hx127_2)).trans hx127_2
                        replace hx127_3 := (HB.out.cell (World.block_lt_of_cell? w _ hx127_3)).trans hx127_3
                        replace hx127_4 := (HB.out.cell (World.block_lt_of_cell? w _ hx127_4)).trans hx127_4
                        replace hx127_5 := (HB.out.cell (World.block_lt_of_cell? w _ hx127_5)).trans hx127_5
                        replace hx127_6 := (HB.out.cell (World.block_lt_of_cell? w _ hx127_6)).trans hx127_6
                        replace p127 := eq_true p127
                        replace q127 := eq_true q127
                        refine start_ (n := 24) (S := fun w' => w'.cell? ⟨gb124, 0, none⟩ = some (.int .i32 ((rd_T26 l0 x7_1).f0)) ∧ w'.cell? ⟨gb124, 1, none⟩ = some (.int .i32 ((rd_T26 l0 x7_1).f1.f0)) ∧ w'.cell? ⟨gb124, 2, none⟩ = some (.int .i32 ((rd_T26 l0 x7_1).f1.f1)) ∧ w'.cell? ⟨gb124, 3, none⟩ = some (.int .u8 ((rd_T26 l0 x7_1).f2)) ∧ w'.cell? ⟨gb124, 4, none⟩ = some (.int .u8 ((rd_T26 l0 x7_1).f3.f0)) ∧ w'.cell? ⟨gb124, 5, none⟩ = some (.int .u8 ((rd_T26 l0 x7_1).f3.f1)) ∧ w'.cell? ⟨gb124, 6, none⟩ = some (.int .u8 ((rd_T26 l0 x7_1).f3.f2)) ∧ w'.cell? (ad123.add (((ji16)).toNat * 7)) = some (.int .i32 ((rd_T26 l0 (ji16)).f0)) ∧ w'.cell? ⟨(ad123.add (((ji16)).toNat * 7)).block, (ad123.add (((ji16)).toNat * 7)).off + 1, none⟩ = some (.int .i32 ((rd_T26 l0 (ji16)).f1.f0)) ∧ w'.cell? ⟨(ad123.add (((ji16)).toNat * 7)).block, (ad123.add (((ji16)).toNat * 7)).off + 2, none⟩ = some (.int .i32 ((rd_T26 l0 (ji16)).f1.f1)) ∧ w'.cell? ⟨(ad123.add (((ji16)).toNat * 7)).block, (ad123.add (((ji16)).toNat * 7)).off + 3, none⟩ = some (.int .u8 ((rd_T26 l0 (ji16)).f2)) ∧ w'.cell? ⟨(ad123.add (((ji16)).toNat * 7)).block, (ad123.add (((ji16)).toNat * 7)).off + 4, none⟩ = some (.int .u8 ((rd_T26 l0 (ji16)).f3.f0)) ∧ w'.cell? ⟨(ad123.add (((ji16)).toNat * 7)).block, (ad123.add (((ji16)).toNat * 7)).off + 5, none⟩ = some (.int .u8 ((rd_T26 l0 (ji16)).f3.f1)) ∧ w'.cell? ⟨(ad123.add (((ji16)).toNat * 7)).block, (ad123.add (((ji16)).toNat * 7)).off + 6, none⟩ = some (.int .u8 ((rd_T26 l0 (ji16)).f3.f2))) (ds := []) #[false, false, false, false, false, false, false, false, false, false, false, false, false, false, false, false, false, false, false, false, false, false, false, false] (by kernel_rfl) rfl rfl ⟨(blk_cell BK124.out 0).trans rfl, (blk_cell BK124.out 1).trans rfl, (blk_cell BK124.out 2).trans rfl, (blk_cell BK124.out 3).trans rfl, (blk_cell BK124.out 4).trans rfl, (blk_cell BK124.out 5).trans rfl, (blk_cell BK124.out 6).trans rfl, ((HB.out.cell (World.block_lt_of_cell? w _ hw127_0)).trans hw127_0), ((HB.out.cell (World.block_lt_of_cell? w _ hw127_1)).trans hw127_1), ((HB.out.cell (World.block_lt_of_cell? w _ hw127_2)).trans hw127_2), ((HB.out.cell (World.block_lt_of_cell? w _ hw127_3)).trans hw127_3), ((HB.out.cell (World.block_lt_of_cell? w _ hw127_4)).trans hw127_4), ((HB.out.cell (World.block_lt_of_cell? w _ hw127_5)).trans hw127_5), ((HB.out.cell (World.block_lt_of_cell? w _ hw127_6)).trans hw127_6)⟩ (fun hHeld => ?_); refine with_tabW line_Right.tab4 line_Right.bits4 (fun HT_ HW_ => ?_)
                        generalize w22.drew = w23 at BK124 HB hx127_0 hx127_1 hx127_2 hx127_3 hx127_4 hx127_5 hx127_6 hHeld ⊢
                        refine take_ (i := 0) (N := some 12) (v := ?_) (a' := ?_) #[true, false, false, false, false, false, false, false, false, false, false, false, false, false, false, false, false, false, false, false, false, false, false, false] rfl rfl (take_ofW HT_.out HW_.out (by kernel_rfl)) (fun _ _ _ h => h) (Or.inl ⟨by rfl, ?_⟩) hHeld ?_ ?_
                        rotate_left
                        · rintro w' ⟨s0, s1, s2, s3, s4, s5, s6, s7, s8, s9, s10, s11, s12, s13⟩
                          go_simp
                          with_reducible rfl
                        rotate_left
                        · simp only [Act.put, List.setIfInBounds_toArray, List.set_cons_zero, List.set_cons_succ, i64_w, i32_w]
                          rfl
                        refine one_ (i := 1) (N := some 13) #[true, true, false, false, false, false, false, false, false, false, false, false, false, false, false, false, false, false, false, false, false, false, false, false] rfl rfl (one_of HT_.out (by kernel_rfl)) (by decide) (fun K hK => ?_)
                        refine goes_ Try.func26 (by kernel_rfl) rfl #[.agg #[.int .i32 ((rd_T26 l0 x7_1).f0), .int .i32 ((rd_T26 l0 x7_1).f1.f0), .int .i32 ((rd_T26 l0 x7_1).f1.f1), .int .u8 ((rd_T26 l0 x7_1).f2), .int .u8 ((rd_T26 l0 x7_1).f3.f0), .int .u8 ((rd_T26 l0 x7_1).f3.f1), .int .u8 ((rd_T26 l0 x7_1).f3.f2)]] (by rfl) rfl rfl (by (try simp only [List.map_toArray, List.map_cons, List.map_nil]); first | done | rfl | (simp only [List.length_drop, List.length_take]; rfl)) ?_
                        with_reducible refine (cell_Right.calls ((rd_T26 l0 x7_1).f0) ((rd_T26 l0 x7_1).f1.f0) ((rd_T26 l0 x7_1).f1.f1) ((rd_T26 l0 x7_1).f2) ((rd_T26 l0 x7_1).f3.f0) ((rd_T26 l0 x7_1).f3.f1) ((rd_T26 l0 x7_1).f3.f2) true _ A5.out).mono ?_
                        rintro e w24 ⟨rfl, hb⟩
                        refine ⟨_, rfl, ?_⟩
                        have n0_ := Aside0.mk (blk_below (g := gb124) (o := .cells #[.int .i32 ((rd_T26 l0 x7_1).f0), .int .i32 ((rd_T26 l0 x7_1).f1.f0), .int .i32 ((rd_T26 l0 x7_1).f1.f1), .int .u8 ((rd_T26 l0 x7_1).f2), .int .u8 ((rd_T26 l0 x7_1).f3.f0), .int .u8 ((rd_T26 l0 x7_1).f3.f1), .int .u8 ((rd_T26 l0 x7_1).f3.f2)] 26 (0, 0)) (by (with_reducible repeat (first | refine blk_drewN ?_ _ | refine blk_drew ?_ | refine blk_alloc ?_ _)); exact BK124.out) hb)
                        have n1_ := Aside0.mk (below_step (by repeat (first | (with_reducible first | exact HB.out | apply below_alloc | apply pw_below_drewN | apply below_drew1 | refine below_set ?_ GE124.out) | exact HB.out)) hb)
                        clear BK124
                        clear HB
                        have BK124 := n0_
                        have HB := n1_
                        clear n0_ n1_
                        (try clear hb)
                        (try clear hb2)
                        (try clear hk)
                        (try clear hi)
                        refine hK.out _ _ ⟨(blk_cell BK124.out 0).trans rfl, (blk_cell BK124.out 1).trans rfl, (blk_cell BK124.out 2).trans rfl, (blk_cell BK124.out 3).trans rfl, (blk_cell BK124.out 4).trans rfl, (blk_cell BK124.out 5).trans rfl, (blk_cell BK124.out 6).trans rfl, ((HB.out.cell (World.block_lt_of_cell? w _ hw127_0)).trans hw127_0), ((HB.out.cell (World.block_lt_of_cell? w _ hw127_1)).trans hw127_1), ((HB.out.cell (World.block_lt_of_cell? w _ hw127_2)).trans hw127_2), ((HB.out.cell (World.block_lt_of_cell? w _ hw127_3)).trans hw127_3), ((HB.out.cell (World.block_lt_of_cell? w _ hw127_4)).trans hw127_4), ((HB.out.cell (World.block_lt_of_cell? w _ hw127_5)).trans hw127_5), ((HB.out.cell (World.block_lt_of_cell? w _ hw127_6)).trans hw127_6)⟩ (fun hHeld => ?_)
                        clear hK K
                        refine norm_ (a' := ?_) ?_ ?_
                        rotate_left
                        · show Act.put _ (some 13) _ = _
                          simp only [Act.put, List.setIfInBounds_toArray, List.set_cons_zero, List.set_cons_succ, i64_w, i32_w]
                          rfl
                        refine pure_ (i := 2) (N := some 14) (v := ?_) (a' := ?_) #[true, true, true, false, false, false, false, false, false, false, false, false, false, false, false, false, false, false, false, false, false, false, false, false] rfl rfl (any_of HT_.out (by kernel_rfl)) (fun _ _ _ h => h) (Or.inl ⟨by rfl, ?_⟩) ?_ ?_
                        rotate_left
                        · intro w'
                          go_simp
                          with_reducible rfl
                        rotate_left
                        · simp only [Act.put, List.setIfInBounds_toArray, List.set_cons_zero, List.set_cons_succ, i64_w, i32_w]
                          rfl
                        refine pure_ (i := 3) (N := some 15) (v := ?_) (a' := ?_) #[true, true, true, true, false, false, false, false, false, false, false, false, false, false, false, false, false, false, false, false, false, false, false, false] rfl rfl (any_of HT_.out (by kernel_rfl)) (fun _ _ _ h => h) (Or.inl ⟨by rfl, ?_⟩) ?_ ?_
                        rotate_left
                        · intro w'
                          go_simp
                          with_reducible rfl
                        rotate_left
                        · simp only [Act.put, List.setIfInBounds_toArray, List.set_cons_zero, List.set_cons_succ, i64_w, i32_w]
                          rfl
                        refine pure_ (i := 4) (N := some 16) (v := ?_) (a' := ?_) #[true, true, true, true, true, false, false, false, false, false, false, false, false, false, false, false, false, false, false, false, false, false, false, false] rfl rfl (any_of HT_.out (by kernel_rfl)) (fun _ _ _ h => h) (Or.inl ⟨by rfl, ?_⟩) ?_ ?_
                        rotate_left
                        · intro w'
                          go_simp
                          with_reducible rfl
                        rotate_left
                        · simp only [Act.put, List.setIfInBounds_toArray, List.set_cons_zero, List.set_cons_succ, i64_w, i32_w]
                          rfl
                        refine pure_ (i := 5) (N := some 17) (v := ?_) (a' := ?_) #[true, true, true, true, true, true, false, false, false, false, false, false, false, false, false, false, false, false, false, false, false, false, false, false] rfl rfl (any_of HT_.out (by kernel_rfl)) (fun _ _ _ h => h) (Or.inl ⟨by rfl, ?_⟩) ?_ ?_
                        rotate_left
                        · intro w'
                          go_simp
                          with_reducible rfl
                        rotate_left
                        · simp only [Act.put, List.setIfInBounds_toArray, List.set_cons_zero, List.set_cons_succ, i64_w, i32_w]
                          rfl
                        refine one_ (i := 6) (N := some 18) #[true, true, true, true, true, true, true, false, false, false, false, false, false, false, false, false, false, false, false, false, false, false, false, false] rfl rfl (one_of HT_.out (by kernel_rfl)) (by decide) (fun K hK => ?_)
                        refine goes_ Try.func94 (by kernel_rfl) rfl #[.slice (some ad123) l0.length c0, .int .i64 x7_1] (by rfl) rfl rfl (by (try simp only [List.map_toArray, List.map_cons, List.map_nil]); first | done | rfl | (simp only [List.length_drop, List.length_take]; rfl)) ?_
                        with_reducible refine (line_alone.calls _ _ l0 x7_1 false _ ?side1 ?side2 A7.out).mono ?_
                        (case side1 => repeat (first | exact (Kd.C_below HR0.out HB.out) | (with_reducible refine Kd.C_alloc ?_ _) | (with_reducible refine Kd.C_drewN ?_ _) | (with_reducible refine Kd.C_drew ?_)))
                        (case side2 => exact HC0.out)
                        rintro e w25 ⟨rfl, hb⟩
                        refine ⟨_, rfl, ?_⟩
                        have n0_ := Aside0.mk (blk_below (g := gb124) (o := .cells #[.int .i32 ((rd_T26 l0 x7_1).f0), .int .i32 ((rd_T26 l0 x7_1).f1.f0), .int .i32 ((rd_T26 l0 x7_1).f1.f1), .int .u8 ((rd_T26 l0 x7_1).f2), .int .u8 ((rd_T26 l0 x7_1).f3.f0), .int .u8 ((rd_T26 l0 x7_1).f3.f1), .int .u8 ((rd_T26 l0 x7_1).f3.f2)] 26 (0, 0)) (by (with_reducible repeat (first | refine blk_drewN ?_ _ | refine blk_drew ?_ | refine blk_alloc ?_ _)); exact BK124.out) hb)
                        have n1_ := Aside0.mk (below_step (by repeat (first | (with_reducible first | exact HB.out | apply below_alloc | apply pw_below_drewN | apply below_drew1 | refine below_set ?_ GE124.out) | exact HB.out)) hb)
                        clear BK124
                        clear HB
                        have BK124 := n0_
                        have HB := n1_
                        clear n0_ n1_
                        (try clear hb)
                        (try clear hb2)
                        (try clear hk)
                        (try clear hi)
                        refine hK.out _ _ ⟨(blk_cell BK124.out 0).trans rfl, (blk_cell BK124.out 1).trans rfl, (blk_cell BK124.out 2).trans rfl, (blk_cell BK124.out 3).trans rfl, (blk_cell BK124.out 4).trans rfl, (blk_cell BK124.out 5).trans rfl, (blk_cell BK124.out 6).trans rfl, ((HB.out.cell (World.block_lt_of_cell? w _ hw127_0)).trans hw127_0), ((HB.out.cell (World.block_lt_of_cell? w _ hw127_1)).trans hw127_1), ((HB.out.cell (World.block_lt_of_cell? w _ hw127_2)).trans hw127_2), ((HB.out.cell (World.block_lt_of_cell? w _ hw127_3)).trans hw127_3), ((HB.out.cell (World.block_lt_of_cell? w _ hw127_4)).trans hw127_4), ((HB.out.cell (World.block_lt_of_cell? w _ hw127_5)).trans hw127_5), ((HB.out.cell (World.block_lt_of_cell? w _ hw127_6)).trans hw127_6)⟩ (fun hHeld => ?_)
                        clear hK K
                        refine norm_ (a' := ?_) ?_ ?_
                        rotate_left
                        · show Act.put _ (some 18) _ = _
                          simp only [Act.put, List.setIfInBounds_toArray, List.set_cons_zero, List.set_cons_succ, i64_w, i32_w]
                          rfl
                        refine pure_ (i := 7) (N := some 19) (v := ?_) (a' := ?_) #[true, true, true, true, true, true, true, true, false, false, false, false, false, false, false, false, false, false, false, false, false, false, false, false] rfl rfl (any_of HT_.out (by kernel_rfl)) (fun _ _ _ h => h) (Or.inl ⟨by rfl, ?_⟩) ?_ ?_
                        rotate_left
                        · intro w'
                          go_simp
                          with_reducible rfl
                        rotate_left
                        · simp only [Act.put, List.setIfInBounds_toArray, List.set_cons_zero, List.set_cons_succ, i64_w, i32_w]
                          rfl
                        refine pure_ (i := 8) (N := some 20) (v := ?_) (a' := ?_) #[true, true, true, true, true, true, true, true, true, false, false, false, false, false, false, false, false, false, false, false, false, false, false, false] rfl rfl (any_of HT_.out (by kernel_rfl)) (fun _ _ _ h => h) (Or.inl ⟨by rfl, ?_⟩) ?_ ?_
                        rotate_left
                        · intro w'
                          go_simp
                          with_reducible rfl
                        rotate_left
                        · simp only [Act.put, List.setIfInBounds_toArray, List.set_cons_zero, List.set_cons_succ, i64_w, i32_w]
                          rfl
                        refine pure_ (i := 9) (N := some 21) (v := ?_) (a' := ?_) #[true, true, true, true, true, true, true, true, true, true, false, false, false, false, false, false, false, false, false, false, false, false, false, false] rfl rfl (any_of HT_.out (by kernel_rfl)) (fun _ _ _ h => h) (Or.inl ⟨by rfl, ?_⟩) ?_ ?_
                        rotate_left
                        · intro w'
                          go_simp
                          with_reducible rfl
                        rotate_left
                        · simp only [Act.put, List.setIfInBounds_toArray, List.set_cons_zero, List.set_cons_succ, i64_w, i32_w]
                          rfl
                        refine take_ (i := 10) (N := some 22) (v := ?_) (a' := ?_) #[true, true, true, true, true, true, true, true, true, true, true, false, false, false, false, false, false, false, false, false, false, false, false, false] rfl rfl (take_ofW HT_.out HW_.out (by kernel_rfl)) (fun _ _ _ h => h) (Or.inl ⟨by rfl, ?_⟩) hHeld ?_ ?_
                        rotate_left
                        · rintro w' ⟨s0, s1, s2, s3, s4, s5, s6, s7, s8, s9, s10, s11, s12, s13⟩
                          go_simp
                          with_reducible rfl
                        rotate_left
                        · simp only [Act.put, List.setIfInBounds_toArray, List.set_cons_zero, List.set_cons_succ, i64_w, i32_w]
                          rfl
                        refine pure_ (i := 11) (N := some 23) (v := ?_) (a' := ?_) #[true, true, true, true, true, true, true, true, true, true, true, true, false, false, false, false, false, false, false, false, false, false, false, false] rfl rfl (any_of HT_.out (by kernel_rfl)) (fun _ _ _ h => h) (Or.inl ⟨by rfl, ?_⟩) ?_ ?_
                        rotate_left
                        · intro w'
                          go_simp
                          with_reducible rfl
                        rotate_left
                        · simp only [Act.put, List.setIfInBounds_toArray, List.set_cons_zero, List.set_cons_succ, i64_w, i32_w]
                          rfl
                        refine pure_ (i := 12) (N := some 24) (v := ?_) (a' := ?_) #[true, true, true, true, true, true, true, true, true, true, true, true, true, false, false, false, false, false, false, false, false, false, false, false] rfl rfl (any_of HT_.out (by kernel_rfl)) (fun _ _ _ h => h) (Or.inl ⟨by rfl, ?_⟩) ?_ ?_
                        rotate_left
                        · intro w'
                          go_simp
                          with_reducible rfl
                        rotate_left
                        · simp only [Act.put, List.setIfInBounds_toArray, List.set_cons_zero, List.set_cons_succ, i64_w, i32_w]
                          rfl
                        refine pure_ (i := 13) (N := some 25) (v := ?_) (a' := ?_) #[true, true, true, true, true, true, true, true, true, true, true, true, true, true, false, false, false, false, false, false, false, false, false, false] rfl rfl (any_of HT_.out (by kernel_rfl)) (fun _ _ _ h => h) (Or.inl ⟨by rfl, ?_⟩) ?_ ?_
                        rotate_left
                        · intro w'
                          go_simp
                          with_reducible rfl
                        rotate_left
                        · simp only [Act.put, List.setIfInBounds_toArray, List.set_cons_zero, List.set_cons_succ, i64_w, i32_w]
                          rfl
                        refine pure_ (i := 14) (N := some 26) (v := ?_) (a' := ?_) #[true, true, true, true, true, true, true, true, true, true, true, true, true, true, true, false, false, false, false, false, false, false, false, false] rfl rfl (any_of HT_.out (by kernel_rfl)) (fun _ _ _ h => h) (Or.inl ⟨by rfl, ?_⟩) ?_ ?_
                        rotate_left
                        · intro w'
                          go_simp
                          with_reducible rfl
                        rotate_left
                        · simp only [Act.put, List.setIfInBounds_toArray, List.set_cons_zero, List.set_cons_succ, i64_w, i32_w]
                          rfl
                        refine pure_ (i := 15) (N := some 27) (v := ?_) (a' := ?_) #[true, true, true, true, true, true, true, true, true, true, true, true, true, true, true, true, false, false, false, false, false, false, false, false] rfl rfl (any_of HT_.out (by kernel_rfl)) (fun _ _ _ h => h) (Or.inl ⟨by rfl, ?_⟩) ?_ ?_
                        rotate_left
                        · intro w'
                          go_simp
                          with_reducible rfl
                        rotate_left
                        · simp only [Act.put, List.setIfInBounds_toArray, List.set_cons_zero, List.set_cons_succ, i64_w, i32_w]
                          rfl
                        refine pure_ (i := 16) (N := some 28) (v := ?_) (a' := ?_) #[true, true, true, true, true, true, true, true, true, true, true, true, true, true, true, true, true, false, false, false, false, false, false, false] rfl rfl (any_of HT_.out (by kernel_rfl)) (fun _ _ _ h => h) (Or.inl ⟨by rfl, ?_⟩) ?_ ?_
                        rotate_left
                        · intro w'
                          go_simp
                          with_reducible rfl
                        rotate_left
                        · simp only [Act.put, List.setIfInBounds_toArray, List.set_cons_zero, List.set_cons_succ, i64_w, i32_w]
                          rfl
                        refine pure_ (i := 17) (N := some 29) (v := ?_) (a' := ?_) #[true, true, true, true, true, true, true, true, true, true, true, true, true, true, true, true, true, true, false, false, false, false, false, false] rfl rfl (any_of HT_.out (by kernel_rfl)) (fun _ _ _ h => h) (Or.inl ⟨by rfl, ?_⟩) ?_ ?_
                        rotate_left
                        · intro w'
                          go_simp
                          with_reducible rfl
                        rotate_left
                        · simp only [Act.put, List.setIfInBounds_toArray, List.set_cons_zero, List.set_cons_succ, i64_w, i32_w]
                          rfl
                        refine pure_ (i := 19) (N := some 31) (v := ?_) (a' := ?_) #[true, true, true, true, true, true, true, true, true, true, true, true, true, true, true, true, true, true, false, true, false, false, false, false] rfl rfl (any_of HT_.out (by kernel_rfl)) (fun _ _ _ h => h) (Or.inl ⟨by rfl, ?_⟩) ?_ ?_
                        rotate_left
                        · intro w'
                          go_simp
                          with_reducible rfl
                        rotate_left
                        · simp only [Act.put, List.setIfInBounds_toArray, List.set_cons_zero, List.set_cons_succ, i64_w, i32_w]
                          rfl
                        refine take_ (i := 18) (N := some 30) (v := ?_) (a' := ?_) #[true, true, true, true, true, true, true, true, true, true, true, true, true, true, true, true, true, true, true, true, false, false, false, false] rfl rfl (take_ofW HT_.out HW_.out (by kernel_rfl)) (fun _ _ _ h => h) (Or.inl ⟨by rfl, ?_⟩) hHeld ?_ ?_
                        rotate_left
                        · rintro w' ⟨s0, s1, s2, s3, s4, s5, s6, s7, s8, s9, s10, s11, s12, s13⟩
                          go_simp
                          with_reducible rfl
                        rotate_left
                        · simp only [Act.put, List.setIfInBounds_toArray, List.set_cons_zero, List.set_cons_succ, i64_w, i32_w]
                          rfl
                        refine take_ (i := 20) (N := some 32) (v := ?_) (a' := ?_) #[true, true, true, true, true, true, true, true, true, true, true, true, true, true, true, true, true, true, true, true, true, false, false, false] rfl rfl (take_ofW HT_.out HW_.out (by kernel_rfl)) (fun _ _ _ h => h) (Or.inl ⟨by rfl, ?_⟩) hHeld ?_ ?_
                        rotate_left
                        · rintro w' ⟨s0, s1, s2, s3, s4, s5, s6, s7, s8, s9, s10, s11, s12, s13⟩
                          go_simp
                          with_reducible rfl
                        rotate_left
                        · simp only [Act.put, List.setIfInBounds_toArray, List.set_cons_zero, List.set_cons_succ, i64_w, i32_w]
                          rfl
                        refine pure_ (i := 21) (N := some 33) (v := ?_) (a' := ?_) #[true, true, true, true, true, true, true, true, true, true, true, true, true, true, true, true, true, true, true, true, true, true, false, false] rfl rfl (any_of HT_.out (by kernel_rfl)) (fun _ _ _ h => h) (Or.inl ⟨by rfl, ?_⟩) ?_ ?_
                        rotate_left
                        · intro w'
                          go_simp
                          with_reducible rfl
                        rotate_left
                        · simp only [Act.put, List.setIfInBounds_toArray, List.set_cons_zero, List.set_cons_succ, i64_w, i32_w]
                          rfl
                        refine pure_ (i := 22) (N := some 34) (v := ?_) (a' := ?_) #[true, true, true, true, true, true, true, true, true, true, true, true, true, true, true, true, true, true, true, true, true, true, true, false] rfl rfl (any_of HT_.out (by kernel_rfl)) (fun _ _ _ h => h) (Or.inl ⟨by rfl, ?_⟩) ?_ ?_
                        rotate_left
                        · intro w'
                          go_simp
                          with_reducible rfl
                        rotate_left
                        · simp only [Act.put, List.setIfInBounds_toArray, List.set_cons_zero, List.set_cons_succ, i64_w, i32_w]
                          rfl
                        refine pure_ (i := 23) (N := some 35) (v := ?_) (a' := ?_) #[true, true, true, true, true, true, true, true, true, true, true, true, true, true, true, true, true, true, true, true, true, true, true, true] rfl rfl (any_of HT_.out (by kernel_rfl)) (fun _ _ _ h => h) (Or.inl ⟨by rfl, ?_⟩) ?_ ?_
                        rotate_left
                        · intro w'
                          go_simp
                          with_reducible rfl
                        rotate_left
                        · simp only [Act.put, List.setIfInBounds_toArray, List.set_cons_zero, List.set_cons_succ, i64_w, i32_w]
                          rfl
                        refine done_ (done_of HT_.out (by kernel_rfl)) ?_
                        try go_wp2
                        go_ret
                        exact ⟨by first | rfl | (simp [errW_none, errW_some] <;> rfl) | (simp only [← hji16]; first | rfl | (simp [errW_none, errW_some] <;> rfl)) | (simp [*, errW_none, errW_some] <;> rfl), by repeat (first | (with_reducible first | exact HB.out | apply below_alloc | apply pw_below_drewN | apply below_drew1 | refine below_set ?_ GE124.out) | exact HB.out)⟩
                      · rw [if_neg c19] at H
                        have c19b0 : (!(((rd_T26 l0 (ji16)).f3.f0) == ((rd_T26 l0 x7_1).f3.f0)) || (!(((rd_T26 l0 (ji16)).f3.f1) == ((rd_T26 l0 x7_1).f3.f1)) || (!(((rd_T26 l0 (ji16)).f3.f2) == ((rd_T26 l0 x7_1).f3.f2))))) = false := by simpa using c19
                        clear c19
                        have H' := Aside0.mk H
                        clear H
                        have p123 : 0 ≤ (x7_1 : Int) := of_decide_eq_true (by first | (with_reducible assumption) | assumption)
                        have q123 : x7_1 < (l0.length : Int) := of_decide_eq_true (by first | (with_reducible assumption) | assumption)
                        obtain ⟨ad123, e123, hx123_0, hx123_1, hx123_2, hx123_3, hx123_4, hx123_5, hx123_6⟩ := at_T26 HR0.out x7_1 p123 q123
                        cases e123
                        replace hx123_0 := (HB.out.cell (World.block_lt_of_cell? w _ hx123_0)).trans hx123_0
                        replace hx123_1 := (HB.out.cell (World.block_lt_of_cell? w _ hx123_1)).trans hx123_1
                        replace hx123_2 := (HB.out.cell (World.block_lt_of_cell? w _ hx123_2)).trans hx123_2
                        replace hx123_3 := (HB.out.cell (World.block_lt_of_cell? w _ hx123_3)).trans hx123_3
                        replace hx123_4 := (HB.out.cell (World.block_lt_of_cell? w _ hx123_4)).trans hx123_4
                        replace hx123_5 := (HB.out.cell (World.block_lt_of_cell? w _ hx123_5)).trans hx123_5
                        replace hx123_6 := (HB.out.cell (World.block_lt_of_cell? w _ hx123_6)).trans hx123_6
                        replace p123 := eq_true p123
                        replace q123 := eq_true q123
                        try go_wp2_with (first | ((with_reducible refine gate_dst (N := 4) rfl ?_); refine box_event ?hg (N := 4) ?hd (cs := #[.int .i32 0, .int .i32 0, .int .i32 0, .int .u8 0, .int .u8 0, .int .u8 0, .int .u8 0]) (t := 26) ?hr ?_; (case hd => rfl); (case hg => rfl); (case hr => first | (go_simp; done) | (go_simp; rfl)); intro gb124 hg w26 hbox hb; have n0_ := Aside0.mk (below_step (by repeat (first | (with_reducible first | exact HB.out | apply below_alloc | apply pw_below_drewN | apply below_drew1) | exact HB.out)) hb); have n1_ := Aside0.mk (hbox); have n2_ := Aside0.mk ((by rw [hg]; exact (below_size (by repeat (first | (with_reducible first | exact HB.out | apply below_alloc | apply pw_below_drewN | apply below_drew1) | exact HB.out))) : w.heap.size ≤ gb124)); have n3_ := Aside0.mk ((by rw [hg]; exact (below_size (by repeat (first | (with_reducible first | exact HB.out | apply below_alloc | apply pw_below_drewN | apply below_drew1) | exact HB.out))) : w.heap.size ≤ gb124)); clear HB; have HB := n0_; have BK124 := n1_; have GW124 := n2_; have GE124 := n3_; clear n0_ n1_ n2_ n3_; clear hb hbox hg; have hcz27_0 : w26.cell? ⟨gb124, 0, none⟩ = some (.int .i32 0) := (blk_cell BK124.out 0).trans rfl; have hcz27_1 : w26.cell? ⟨gb124, 1, none⟩ = some (.int .i32 0) := (blk_cell BK124.out 1).trans rfl; have hcz27_2 : w26.cell? ⟨gb124, 2, none⟩ = some (.int .i32 0) := (blk_cell BK124.out 2).trans rfl; have hcz27_3 : w26.cell? ⟨gb124, 3, none⟩ = some (.int .u8 0) := (blk_cell BK124.out 3).trans rfl; have hcz27_4 : w26.cell? ⟨gb124, 4, none⟩ = some (.int .u8 0) := (blk_cell BK124.out 4).trans rfl; have hcz27_5 : w26.cell? ⟨gb124, 5, none⟩ = some (.int .u8 0) := (blk_cell BK124.out 5).trans rfl; have hcz27_6 : w26.cell? ⟨gb124, 6, none⟩ = some (.int .u8 0) := (blk_cell BK124.out 6).trans rfl; have hfz27_0 := blk_frozen BK124.out 0; have hfz27_1 := blk_frozen BK124.out 1; have hfz27_2 := blk_frozen BK124.out 2; have hfz27_3 := blk_frozen BK124.out 3; have hfz27_4 := blk_frozen BK124.out 4; have hfz27_5 := blk_frozen BK124.out 5; have hfz27_6 := blk_frozen BK124.out 6))
                        have n0_ : Aside0 ((((((((w26.setCell ⟨gb124, 0, none⟩ (.int .i32 ((rd_T26 l0 x7_1).f0))).setCell ⟨gb124, 1, none⟩ (.int .i32 ((rd_T26 l0 x7_1).f1.f0))).setCell ⟨gb124, 2, none⟩ (.int .i32 ((rd_T26 l0 x7_1).f1.f1))).setCell ⟨gb124, 3, none⟩ (.int .u8 ((rd_T26 l0 x7_1).f2))).setCell ⟨gb124, 4, none⟩ (.int .u8 ((rd_T26 l0 x7_1).f3.f0))).setCell ⟨gb124, 5, none⟩ (.int .u8 ((rd_T26 l0 x7_1).f3.f1))).setCell ⟨gb124, 6, none⟩ (.int .u8 ((rd_T26 l0 x7_1).f3.f2))).heap[gb124]? = some (.cells #[.int .i32 ((rd_T26 l0 x7_1).f0), .int .i32 ((rd_T26 l0 x7_1).f1.f0), .int .i32 ((rd_T26 l0 x7_1).f1.f1), .int .u8 ((rd_T26 l0 x7_1).f2), .int .u8 ((rd_T26 l0 x7_1).f3.f0), .int .u8 ((rd_T26 l0 x7_1).f3.f1), .int .u8 ((rd_T26 l0 x7_1).f3.f2)] 26 (0, 0))) := ⟨by (with_reducible repeat (first | refine blk_drewN ?_ _ | refine blk_drew ?_ | refine blk_alloc ?_ _)); refine blk_put (cs := #[.int .i32 ((rd_T26 l0 x7_1).f0), .int .i32 ((rd_T26 l0 x7_1).f1.f0), .int .i32 ((rd_T26 l0 x7_1).f1.f1), .int .u8 ((rd_T26 l0 x7_1).f2), .int .u8 ((rd_T26 l0 x7_1).f3.f0), .int .u8 ((rd_T26 l0 x7_1).f3.f1), .int .u8 0]) ?_ 6 _ rfl; (with_reducible repeat (first | refine blk_drewN ?_ _ | refine blk_drew ?_ | refine blk_alloc ?_ _)); refine blk_put (cs := #[.int .i32 ((rd_T26 l0 x7_1).f0), .int .i32 ((rd_T26 l0 x7_1).f1.f0), .int .i32 ((rd_T26 l0 x7_1).f1.f1), .int .u8 ((rd_T26 l0 x7_1).f2), .int .u8 ((rd_T26 l0 x7_1).f3.f0), .int .u8 0, .int .u8 0]) ?_ 5 _ rfl; (with_reducible repeat (first | refine blk_drewN ?_ _ | refine blk_drew ?_ | refine blk_alloc ?_ _)); refine blk_put (cs := #[.int .i32 ((rd_T26 l0 x7_1).f0), .int .i32 ((rd_T26 l0 x7_1).f1.f0), .int .i32 ((rd_T26 l0 x7_1).f1.f1), .int .u8 ((rd_T26 l0 x7_1).f2), .int .u8 0, .int .u8 0, .int .u8 0]) ?_ 4 _ rfl; (with_reducible repeat (first | refine blk_drewN ?_ _ | refine blk_drew ?_ | refine blk_alloc ?_ _)); refine blk_put (cs := #[.int .i32 ((rd_T26 l0 x7_1).f0), .int .i32 ((rd_T26 l0 x7_1).f1.f0), .int .i32 ((rd_T26 l0 x7_1).f1.f1), .int .u8 0, .int .u8 0, .int .u8 0, .int .u8 0]) ?_ 3 _ rfl; (with_reducible repeat (first | refine blk_drewN ?_ _ | refine blk_drew ?_ | refine blk_alloc ?_ _)); refine blk_put (cs := #[.int .i32 ((rd_T26 l0 x7_1).f0), .int .i32 ((rd_T26 l0 x7_1).f1.f0), .int .i32 0, .int .u8 0, .int .u8 0, .int .u8 0, .int .u8 0]) ?_ 2 _ rfl; (with_reducible repeat (first | refine blk_drewN ?_ _ | refine blk_drew ?_ | refine blk_alloc ?_ _)); refine blk_put (cs := #[.int .i32 ((rd_T26 l0 x7_1).f0), .int .i32 0, .int .i32 0, .int .u8 0, .int .u8 0, .int .u8 0, .int .u8 0]) ?_ 1 _ rfl; (with_reducible repeat (first | refine blk_drewN ?_ _ | refine blk_drew ?_ | refine blk_alloc ?_ _)); refine blk_put (cs := #[.int .i32 0, .int .i32 0, .int .i32 0, .int .u8 0, .int .u8 0, .int .u8 0, .int .u8 0]) ?_ 0 _ rfl; (with_reducible repeat (first | refine blk_drewN ?_ _ | refine blk_drew ?_ | refine blk_alloc ?_ _)); exact BK124.out⟩
                        have n1_ : Aside0 (Below w.heap.size w (((((((w26.setCell ⟨gb124, 0, none⟩ (.int .i32 ((rd_T26 l0 x7_1).f0))).setCell ⟨gb124, 1, none⟩ (.int .i32 ((rd_T26 l0 x7_1).f1.f0))).setCell ⟨gb124, 2, none⟩ (.int .i32 ((rd_T26 l0 x7_1).f1.f1))).setCell ⟨gb124, 3, none⟩ (.int .u8 ((rd_T26 l0 x7_1).f2))).setCell ⟨gb124, 4, none⟩ (.int .u8 ((rd_T26 l0 x7_1).f3.f0))).setCell ⟨gb124, 5, none⟩ (.int .u8 ((rd_T26 l0 x7_1).f3.f1))).setCell ⟨gb124, 6, none⟩ (.int .u8 ((rd_T26 l0 x7_1).f3.f2)))) := ⟨by repeat (first | (with_reducible first | exact HB.out | apply below_alloc | apply pw_below_drewN | apply below_drew1 | refine below_set ?_ GE124.out) | exact HB.out)⟩
                        (try clear BK124)
                        (try clear HB)
                        generalize (((((((w26.setCell ⟨gb124, 0, none⟩ (.int .i32 ((rd_T26 l0 x7_1).f0))).setCell ⟨gb124, 1, none⟩ (.int .i32 ((rd_T26 l0 x7_1).f1.f0))).setCell ⟨gb124, 2, none⟩ (.int .i32 ((rd_T26 l0 x7_1).f1.f1))).setCell ⟨gb124, 3, none⟩ (.int .u8 ((rd_T26 l0 x7_1).f2))).setCell ⟨gb124, 4, none⟩ (.int .u8 ((rd_T26 l0 x7_1).f3.f0))).setCell ⟨gb124, 5, none⟩ (.int .u8 ((rd_T26 l0 x7_1).f3.f1))).setCell ⟨gb124, 6, none⟩ (.int .u8 ((rd_T26 l0 x7_1).f3.f2))) = w28 at n0_ n1_ ⊢
                        have BK124 := n0_
                        have HB := n1_
                        clear n0_ n1_
                        have n0_ := Aside0.mk (blk_drew BK124.out)
                        have n1_ := Aside0.mk (below_drew1 HB.out)
                        clear BK124
                        clear HB
                        have BK124 := n0_
                        have HB := n1_
                        clear n0_ n1_
                        have p127 : 0 ≤ ((ji16) : Int) := of_decide_eq_true (by first | (with_reducible assumption) | assumption)
                        have q127 : (ji16) < (l0.length : Int) := of_decide_eq_true (by first | (with_reducible assumption) | assumption)
                        obtain ⟨ad127, e127, hx127_0, hx127_1, hx127_2, hx127_3, hx127_4, hx127_5, hx127_6⟩ := at_T26 HR0.out (ji16) p127 q127
                        have hw127_6 := hx127_6
                        have hw127_5 := hx127_5
                        have hw127_4 := hx127_4
                        have hw127_3 := hx127_3
                        have hw127_2 := hx127_2
                        have hw127_1 := hx127_1
                        have hw127_0 := hx127_0
                        obtain rfl : ad123 = ad127 := (by injection e127)
                        replace hx127_0 := (HB.out.cell (World.block_lt_of_cell? w _ hx127_0)).trans hx127_0
                        replace hx127_1 := (HB.out.cell (World.block_lt_of_cell? w _ hx127_1)).trans hx127_1
                        replace hx127_2 := (HB.out.cell (World.block_lt_of_cell? w _ hx127_2)).trans hx127_2
                        replace hx127_3 := (HB.out.cell (World.block_lt_of_cell? w _ hx127_3)).trans hx127_3
                        replace hx127_4 := (HB.out.cell (World.block_lt_of_cell? w _ hx127_4)).trans hx127_4
                        replace hx127_5 := (HB.out.cell (World.block_lt_of_cell? w _ hx127_5)).trans hx127_5
                        replace hx127_6 := (HB.out.cell (World.block_lt_of_cell? w _ hx127_6)).trans hx127_6
                        replace p127 := eq_true p127
                        replace q127 := eq_true q127
                        refine start_ (n := 24) (S := fun w' => w'.cell? ⟨gb124, 0, none⟩ = some (.int .i32 ((rd_T26 l0 x7_1).f0)) ∧ w'.cell? ⟨gb124, 1, none⟩ = some (.int .i32 ((rd_T26 l0 x7_1).f1.f0)) ∧ w'.cell? ⟨gb124, 2, none⟩ = some (.int .i32 ((rd_T26 l0 x7_1).f1.f1)) ∧ w'.cell? ⟨gb124, 3, none⟩ = some (.int .u8 ((rd_T26 l0 x7_1).f2)) ∧ w'.cell? ⟨gb124, 4, none⟩ = some (.int .u8 ((rd_T26 l0 x7_1).f3.f0)) ∧ w'.cell? ⟨gb124, 5, none⟩ = some (.int .u8 ((rd_T26 l0 x7_1).f3.f1)) ∧ w'.cell? ⟨gb124, 6, none⟩ = some (.int .u8 ((rd_T26 l0 x7_1).f3.f2)) ∧ w'.cell? (ad123.add (((ji16)).toNat * 7)) = some (.int .i32 ((rd_T26 l0 (ji16)).f0)) ∧ w'.cell? ⟨(ad123.add (((ji16)).toNat * 7)).block, (ad123.add (((ji16)).toNat * 7)).off + 1, none⟩ = some (.int .i32 ((rd_T26 l0 (ji16)).f1.f0)) ∧ w'.cell? ⟨(ad123.add (((ji16)).toNat * 7)).block, (ad123.add (((ji16)).toNat * 7)).off + 2, none⟩ = some (.int .i32 ((rd_T26 l0 (ji16)).f1.f1)) ∧ w'.cell? ⟨(ad123.add (((ji16)).toNat * 7)).block, (ad123.add (((ji16)).toNat * 7)).off + 3, none⟩ = some (.int .u8 ((rd_T26 l0 (ji16)).f2)) ∧ w'.cell? ⟨(ad123.add (((ji16)).toNat * 7)).block, (ad123.add (((ji16)).toNat * 7)).off + 4, none⟩ = some (.int .u8 ((rd_T26 l0 (ji16)).f3.f0)) ∧ w'.cell? ⟨(ad123.add (((ji16)).toNat * 7)).block, (ad123.add (((ji16)).toNat * 7)).off + 5, none⟩ = some (.int .u8 ((rd_T26 l0 (ji16)).f3.f1)) ∧ w'.cell? ⟨(ad123.add (((ji16)).toNat * 7)).block, (ad123.add (((ji16)).toNat * 7)).off + 6, none⟩ = some (.int .u8 ((rd_T26 l0 (ji16)).f3.f2))) (ds := []) #[false, false, false, false, false, false, false, false, false, false, false, false, false, false, false, false, false, false, false, false, false, false, false, false] (by kernel_rfl) rfl rfl ⟨(blk_cell BK124.out 0).trans rfl, (blk_cell BK124.out 1).trans rfl, (blk_cell BK124.out 2).trans rfl, (blk_cell BK124.out 3).trans rfl, (blk_cell BK124.out 4).trans rfl, (blk_cell BK124.out 5).trans rfl, (blk_cell BK124.out 6).trans rfl, ((HB.out.cell (World.block_lt_of_cell? w _ hw127_0)).trans hw127_0), ((HB.out.cell (World.block_lt_of_cell? w _ hw127_1)).trans hw127_1), ((HB.out.cell (World.block_lt_of_cell? w _ hw127_2)).trans hw127_2), ((HB.out.cell (World.block_lt_of_cell? w _ hw127_3)).trans hw127_3), ((HB.out.cell (World.block_lt_of_cell? w _ hw127_4)).trans hw127_4), ((HB.out.cell (World.block_lt_of_cell? w _ hw127_5)).trans hw127_5), ((HB.out.cell (World.block_lt_of_cell? w _ hw127_6)).trans hw127_6)⟩ (fun hHeld => ?_); refine with_tabW line_Right.tab4 line_Right.bits4 (fun HT_ HW_ => ?_)
                        generalize w28.drew = w29 at BK124 HB hx127_0 hx127_1 hx127_2 hx127_3 hx127_4 hx127_5 hx127_6 hHeld ⊢
                        refine take_ (i := 0) (N := some 12) (v := ?_) (a' := ?_) #[true, false, false, false, false, false, false, false, false, false, false, false, false, false, false, false, false, false, false, false, false, false, false, false] rfl rfl (take_ofW HT_.out HW_.out (by kernel_rfl)) (fun _ _ _ h => h) (Or.inl ⟨by rfl, ?_⟩) hHeld ?_ ?_
                        rotate_left
                        · rintro w' ⟨s0, s1, s2, s3, s4, s5, s6, s7, s8, s9, s10, s11, s12, s13⟩
                          go_simp
                          with_reducible rfl
                        rotate_left
                        · simp only [Act.put, List.setIfInBounds_toArray, List.set_cons_zero, List.set_cons_succ, i64_w, i32_w]
                          rfl
                        refine one_ (i := 1) (N := some 13) #[true, true, false, false, false, false, false, false, false, false, false, false, false, false, false, false, false, false, false, false, false, false, false, false] rfl rfl (one_of HT_.out (by kernel_rfl)) (by decide) (fun K hK => ?_)
                        refine goes_ Try.func26 (by kernel_rfl) rfl #[.agg #[.int .i32 ((rd_T26 l0 x7_1).f0), .int .i32 ((rd_T26 l0 x7_1).f1.f0), .int .i32 ((rd_T26 l0 x7_1).f1.f1), .int .u8 ((rd_T26 l0 x7_1).f2), .int .u8 ((rd_T26 l0 x7_1).f3.f0), .int .u8 ((rd_T26 l0 x7_1).f3.f1), .int .u8 ((rd_T26 l0 x7_1).f3.f2)]] (by rfl) rfl rfl (by (try simp only [List.map_toArray, List.map_cons, List.map_nil]); first | done | rfl | (simp only [List.length_drop, List.length_take]; rfl)) ?_
                        with_reducible refine (cell_Right.calls ((rd_T26 l0 x7_1).f0) ((rd_T26 l0 x7_1).f1.f0) ((rd_T26 l0 x7_1).f1.f1) ((rd_T26 l0 x7_1).f2) ((rd_T26 l0 x7_1).f3.f0) ((rd_T26 l0 x7_1).f3.f1) ((rd_T26 l0 x7_1).f3.f2) true _ A5.out).mono ?_
                        rintro e w30 ⟨rfl, hb⟩
                        refine ⟨_, rfl, ?_⟩
                        have n0_ := Aside0.mk (blk_below (g := gb124) (o := .cells #[.int .i32 ((rd_T26 l0 x7_1).f0), .int .i32 ((rd_T26 l0 x7_1).f1.f0), .int .i32 ((rd_T26 l0 x7_1).f1.f1), .int .u8 ((rd_T26 l0 x7_1).f2), .int .u8 ((rd_T26 l0 x7_1).f3.f0), .int .u8 ((rd_T26 l0 x7_1).f3.f1), .int .u8 ((rd_T26 l0 x7_1).f3.f2)] 26 (0, 0)) (by (with_reducible repeat (first | refine blk_drewN ?_ _ | refine blk_drew ?_ | refine blk_alloc ?_ _)); exact BK124.out) hb)
                        have n1_ := Aside0.mk (below_step (by repeat (first | (with_reducible first | exact HB.out | apply below_alloc | apply pw_below_drewN | apply below_drew1 | refine below_set ?_ GE124.out) | exact HB.out)) hb)
                        clear BK124
                        clear HB
                        have BK124 := n0_
                        have HB := n1_
                        clear n0_ n1_
                        (try clear hb)
                        (try clear hb2)
                        (try clear hk)
                        (try clear hi)
                        refine hK.out _ _ ⟨(blk_cell BK124.out 0).trans rfl, (blk_cell BK124.out 1).trans rfl, (blk_cell BK124.out 2).trans rfl, (blk_cell BK124.out 3).trans rfl, (blk_cell BK124.out 4).trans rfl, (blk_cell BK124.out 5).trans rfl, (blk_cell BK124.out 6).trans rfl, ((HB.out.cell (World.block_lt_of_cell? w _ hw127_0)).trans hw127_0), ((HB.out.cell (World.block_lt_of_cell? w _ hw127_1)).trans hw127_1), ((HB.out.cell (World.block_lt_of_cell? w _ hw127_2)).trans hw127_2), ((HB.out.cell (World.block_lt_of_cell? w _ hw127_3)).trans hw127_3), ((HB.out.cell (World.block_lt_of_cell? w _ hw127_4)).trans hw127_4), ((HB.out.cell (World.block_lt_of_cell? w _ hw127_5)).trans hw127_5), ((HB.out.cell (World.block_lt_of_cell? w _ hw127_6)).trans hw127_6)⟩ (fun hHeld => ?_)
                        clear hK K
                        refine norm_ (a' := ?_) ?_ ?_
                        rotate_left
                        · show Act.put _ (some 13) _ = _
                          simp only [Act.put, List.setIfInBounds_toArray, List.set_cons_zero, List.set_cons_succ, i64_w, i32_w]
                          rfl
                        refine pure_ (i := 2) (N := some 14) (v := ?_) (a' := ?_) #[true, true, true, false, false, false, false, false, false, false, false, false, false, false, false, false, false, false, false, false, false, false, false, false] rfl rfl (any_of HT_.out (by kernel_rfl)) (fun _ _ _ h => h) (Or.inl ⟨by rfl, ?_⟩) ?_ ?_
                        rotate_left
                        · intro w'
                          go_simp
                          with_reducible rfl
                        rotate_left
                        · simp only [Act.put, List.setIfInBounds_toArray, List.set_cons_zero, List.set_cons_succ, i64_w, i32_w]
                          rfl
                        refine pure_ (i := 3) (N := some 15) (v := ?_) (a' := ?_) #[true, true, true, true, false, false, false, false, false, false, false, false, false, false, false, false, false, false, false, false, false, false, false, false] rfl rfl (any_of HT_.out (by kernel_rfl)) (fun _ _ _ h => h) (Or.inl ⟨by rfl, ?_⟩) ?_ ?_
                        rotate_left
                        · intro w'
                          go_simp
                          with_reducible rfl
                        rotate_left
                        · simp only [Act.put, List.setIfInBounds_toArray, List.set_cons_zero, List.set_cons_succ, i64_w, i32_w]
                          rfl
                        refine pure_ (i := 4) (N := some 16) (v := ?_) (a' := ?_) #[true, true, true, true, true, false, false, false, false, false, false, false, false, false, false, false, false, false, false, false, false, false, false, false] rfl rfl (any_of HT_.out (by kernel_rfl)) (fun _ _ _ h => h) (Or.inl ⟨by rfl, ?_⟩) ?_ ?_
                        rotate_left
                        · intro w'
                          go_simp
                          with_reducible rfl
                        rotate_left
                        · simp only [Act.put, List.setIfInBounds_toArray, List.set_cons_zero, List.set_cons_succ, i64_w, i32_w]
                          rfl
                        refine pure_ (i := 5) (N := some 17) (v := ?_) (a' := ?_) #[true, true, true, true, true, true, false, false, false, false, false, false, false, false, false, false, false, false, false, false, false, false, false, false] rfl rfl (any_of HT_.out (by kernel_rfl)) (fun _ _ _ h => h) (Or.inl ⟨by rfl, ?_⟩) ?_ ?_
                        rotate_left
                        · intro w'
                          go_simp
                          with_reducible rfl
                        rotate_left
                        · simp only [Act.put, List.setIfInBounds_toArray, List.set_cons_zero, List.set_cons_succ, i64_w, i32_w]
                          rfl
                        refine one_ (i := 6) (N := some 18) #[true, true, true, true, true, true, true, false, false, false, false, false, false, false, false, false, false, false, false, false, false, false, false, false] rfl rfl (one_of HT_.out (by kernel_rfl)) (by decide) (fun K hK => ?_)
                        refine goes_ Try.func94 (by kernel_rfl) rfl #[.slice (some ad123) l0.length c0, .int .i64 x7_1] (by rfl) rfl rfl (by (try simp only [List.map_toArray, List.map_cons, List.map_nil]); first | done | rfl | (simp only [List.length_drop, List.length_take]; rfl)) ?_
                        with_reducible refine (line_alone.calls _ _ l0 x7_1 false _ ?side1 ?side2 A7.out).mono ?_
                        (case side1 => repeat (first | exact (Kd.C_below HR0.out HB.out) | (with_reducible refine Kd.C_alloc ?_ _) | (with_reducible refine Kd.C_drewN ?_ _) | (with_reducible refine Kd.C_drew ?_)))
                        (case side2 => exact HC0.out)
                        rintro e w31 ⟨rfl, hb⟩
                        refine ⟨_, rfl, ?_⟩
                        have n0_ := Aside0.mk (blk_below (g := gb124) (o := .cells #[.int .i32 ((rd_T26 l0 x7_1).f0), .int .i32 ((rd_T26 l0 x7_1).f1.f0), .int .i32 ((rd_T26 l0 x7_1).f1.f1), .int .u8 ((rd_T26 l0 x7_1).f2), .int .u8 ((rd_T26 l0 x7_1).f3.f0), .int .u8 ((rd_T26 l0 x7_1).f3.f1), .int .u8 ((rd_T26 l0 x7_1).f3.f2)] 26 (0, 0)) (by (with_reducible repeat (first | refine blk_drewN ?_ _ | refine blk_drew ?_ | refine blk_alloc ?_ _)); exact BK124.out) hb)
                        have n1_ := Aside0.mk (below_step (by repeat (first | (with_reducible first | exact HB.out | apply below_alloc | apply pw_below_drewN | apply below_drew1 | refine below_set ?_ GE124.out) | exact HB.out)) hb)
                        clear BK124
                        clear HB
                        have BK124 := n0_
                        have HB := n1_
                        clear n0_ n1_
                        (try clear hb)
                        (try clear hb2)
                        (try clear hk)
                        (try clear hi)
                        refine hK.out _ _ ⟨(blk_cell BK124.out 0).trans rfl, (blk_cell BK124.out 1).trans rfl, (blk_cell BK124.out 2).trans rfl, (blk_cell BK124.out 3).trans rfl, (blk_cell BK124.out 4).trans rfl, (blk_cell BK124.out 5).trans rfl, (blk_cell BK124.out 6).trans rfl, ((HB.out.cell (World.block_lt_of_cell? w _ hw127_0)).trans hw127_0), ((HB.out.cell (World.block_lt_of_cell? w _ hw127_1)).trans hw127_1), ((HB.out.cell (World.block_lt_of_cell? w _ hw127_2)).trans hw127_2), ((HB.out.cell (World.block_lt_of_cell? w _ hw127_3)).trans hw127_3), ((HB.out.cell (World.block_lt_of_cell? w _ hw127_4)).trans hw127_4), ((HB.out.cell (World.block_lt_of_cell? w _ hw127_5)).trans hw127_5), ((HB.out.cell (World.block_lt_of_cell? w _ hw127_6)).trans hw127_6)⟩ (fun hHeld => ?_)
                        clear hK K
                        refine norm_ (a' := ?_) ?_ ?_
                        rotate_left
                        · show Act.put _ (some 18) _ = _
                          simp only [Act.put, List.setIfInBounds_toArray, List.set_cons_zero, List.set_cons_succ, i64_w, i32_w]
                          rfl
                        refine pure_ (i := 7) (N := some 19) (v := ?_) (a' := ?_) #[true, true, true, true, true, true, true, true, false, false, false, false, false, false, false, false, false, false, false, false, false, false, false, false] rfl rfl (any_of HT_.out (by kernel_rfl)) (fun _ _ _ h => h) (Or.inl ⟨by rfl, ?_⟩) ?_ ?_
                        rotate_left
                        · intro w'
                          go_simp
                          with_reducible rfl
                        rotate_left
                        · simp only [Act.put, List.setIfInBounds_toArray, List.set_cons_zero, List.set_cons_succ, i64_w, i32_w]
                          rfl
                        refine pure_ (i := 8) (N := some 20) (v := ?_) (a' := ?_) #[true, true, true, true, true, true, true, true, true, false, false, false, false, false, false, false, false, false, false, false, false, false, false, false] rfl rfl (any_of HT_.out (by kernel_rfl)) (fun _ _ _ h => h) (Or.inl ⟨by rfl, ?_⟩) ?_ ?_
                        rotate_left
                        · intro w'
                          go_simp
                          with_reducible rfl
                        rotate_left
                        · simp only [Act.put, List.setIfInBounds_toArray, List.set_cons_zero, List.set_cons_succ, i64_w, i32_w]
                          rfl
                        refine pure_ (i := 9) (N := some 21) (v := ?_) (a' := ?_) #[true, true, true, true, true, true, true, true, true, true, false, false, false, false, false, false, false, false, false, false, false, false, false, false] rfl rfl (any_of HT_.out (by kernel_rfl)) (fun _ _ _ h => h) (Or.inl ⟨by rfl, ?_⟩) ?_ ?_
                        rotate_left
                        · intro w'
                          go_simp
                          with_reducible rfl
                        rotate_left
                        · simp only [Act.put, List.setIfInBounds_toArray, List.set_cons_zero, List.set_cons_succ, i64_w, i32_w]
                          rfl
                        refine take_ (i := 10) (N := some 22) (v := ?_) (a' := ?_) #[true, true, true, true, true, true, true, true, true, true, true, false, false, false, false, false, false, false, false, false, false, false, false, false] rfl rfl (take_ofW HT_.out HW_.out (by kernel_rfl)) (fun _ _ _ h => h) (Or.inl ⟨by rfl, ?_⟩) hHeld ?_ ?_
                        rotate_left
                        · rintro w' ⟨s0, s1, s2, s3, s4, s5, s6, s7, s8, s9, s10, s11, s12, s13⟩
                          go_simp
                          with_reducible rfl
                        rotate_left
                        · simp only [Act.put, List.setIfInBounds_toArray, List.set_cons_zero, List.set_cons_succ, i64_w, i32_w]
                          rfl
                        refine pure_ (i := 11) (N := some 23) (v := ?_) (a' := ?_) #[true, true, true, true, true, true, true, true, true, true, true, true, false, false, false, false, false, false, false, false, false, false, false, false] rfl rfl (any_of HT_.out (by kernel_rfl)) (fun _ _ _ h => h) (Or.inl ⟨by rfl, ?_⟩) ?_ ?_
                        rotate_left
                        · intro w'
                          go_simp
                          with_reducible rfl
                        rotate_left
                        · simp only [Act.put, List.setIfInBounds_toArray, List.set_cons_zero, List.set_cons_succ, i64_w, i32_w]
                          rfl
                        refine pure_ (i := 12) (N := some 24) (v := ?_) (a' := ?_) #[true, true, true, true, true, true, true, true, true, true, true, true, true, false, false, false, false, false, false, false, false, false, false, false] rfl rfl (any_of HT_.out (by kernel_rfl)) (fun _ _ _ h => h) (Or.inl ⟨by rfl, ?_⟩) ?_ ?_
                        rotate_left
                        · intro w'
                          go_simp
                          with_reducible rfl
                        rotate_left
                        · simp only [Act.put, List.setIfInBounds_toArray, List.set_cons_zero, List.set_cons_succ, i64_w, i32_w]
                          rfl
                        refine pure_ (i := 13) (N := some 25) (v := ?_) (a' := ?_) #[true, true, true, true, true, true, true, true, true, true, true, true, true, true, false, false, false, false, false, false, false, false, false, false] rfl rfl (any_of HT_.out (by kernel_rfl)) (fun _ _ _ h => h) (Or.inl ⟨by rfl, ?_⟩) ?_ ?_
                        rotate_left
                        · intro w'
                          go_simp
                          with_reducible rfl
                        rotate_left
                        · simp only [Act.put, List.setIfInBounds_toArray, List.set_cons_zero, List.set_cons_succ, i64_w, i32_w]
                          rfl
                        refine pure_ (i := 14) (N := some 26) (v := ?_) (a' := ?_) #[true, true, true, true, true, true, true, true, true, true, true, true, true, true, true, false, false, false, false, false, false, false, false, false] rfl rfl (any_of HT_.out (by kernel_rfl)) (fun _ _ _ h => h) (Or.inl ⟨by rfl, ?_⟩) ?_ ?_
                        rotate_left
                        · intro w'
                          go_simp
                          with_reducible rfl
                        rotate_left
                        · simp only [Act.put, List.setIfInBounds_toArray, List.set_cons_zero, List.set_cons_succ, i64_w, i32_w]
                          rfl
                        refine pure_ (i := 15) (N := some 27) (v := ?_) (a' := ?_) #[true, true, true, true, true, true, true, true, true, true, true, true, true, true, true, true, false, false, false, false, false, false, false, false] rfl rfl (any_of HT_.out (by kernel_rfl)) (fun _ _ _ h => h) (Or.inl ⟨by rfl, ?_⟩) ?_ ?_
                        rotate_left
                        · intro w'
                          go_simp
                          with_reducible rfl
                        rotate_left
                        · simp only [Act.put, List.setIfInBounds_toArray, List.set_cons_zero, List.set_cons_succ, i64_w, i32_w]
                          rfl
                        refine pure_ (i := 16) (N := some 28) (v := ?_) (a' := ?_) #[true, true, true, true, true, true, true, true, true, true, true, true, true, true, true, true, true, false, false, false, false, false, false, false] rfl rfl (any_of HT_.out (by kernel_rfl)) (fun _ _ _ h => h) (Or.inl ⟨by rfl, ?_⟩) ?_ ?_
                        rotate_left
                        · intro w'
                          go_simp
                          with_reducible rfl
                        rotate_left
                        · simp only [Act.put, List.setIfInBounds_toArray, List.set_cons_zero, List.set_cons_succ, i64_w, i32_w]
                          rfl
                        refine pure_ (i := 17) (N := some 29) (v := ?_) (a' := ?_) #[true, true, true, true, true, true, true, true, true, true, true, true, true, true, true, true, true, true, false, false, false, false, false, false] rfl rfl (any_of HT_.out (by kernel_rfl)) (fun _ _ _ h => h) (Or.inl ⟨by rfl, ?_⟩) ?_ ?_
                        rotate_left
                        · intro w'
                          go_simp
                          with_reducible rfl
                        rotate_left
                        · simp only [Act.put, List.setIfInBounds_toArray, List.set_cons_zero, List.set_cons_succ, i64_w, i32_w]
                          rfl
                        refine pure_ (i := 19) (N := some 31) (v := ?_) (a' := ?_) #[true, true, true, true, true, true, true, true, true, true, true, true, true, true, true, true, true, true, false, true, false, false, false, false] rfl rfl (any_of HT_.out (by kernel_rfl)) (fun _ _ _ h => h) (Or.inl ⟨by rfl, ?_⟩) ?_ ?_
                        rotate_left
                        · intro w'
                          go_simp
                          with_reducible rfl
                        rotate_left
                        · simp only [Act.put, List.setIfInBounds_toArray, List.set_cons_zero, List.set_cons_succ, i64_w, i32_w]
                          rfl
                        refine take_ (i := 18) (N := some 30) (v := ?_) (a' := ?_) #[true, true, true, true, true, true, true, true, true, true, true, true, true, true, true, true, true, true, true, true, false, false, false, false] rfl rfl (take_ofW HT_.out HW_.out (by kernel_rfl)) (fun _ _ _ h => h) (Or.inl ⟨by rfl, ?_⟩) hHeld ?_ ?_
                        rotate_left
                        · rintro w' ⟨s0, s1, s2, s3, s4, s5, s6, s7, s8, s9, s10, s11, s12, s13⟩
                          go_simp
                          with_reducible rfl
                        rotate_left
                        · simp only [Act.put, List.setIfInBounds_toArray, List.set_cons_zero, List.set_cons_succ, i64_w, i32_w]
                          rfl
                        refine take_ (i := 20) (N := some 32) (v := ?_) (a' := ?_) #[true, true, true, true, true, true, true, true, true, true, true, true, true, true, true, true, true, true, true, true, true, false, false, false] rfl rfl (take_ofW HT_.out HW_.out (by kernel_rfl)) (fun _ _ _ h => h) (Or.inl ⟨by rfl, ?_⟩) hHeld ?_ ?_
                        rotate_left
                        · rintro w' ⟨s0, s1, s2, s3, s4, s5, s6, s7, s8, s9, s10, s11, s12, s13⟩
                          go_simp
                          with_reducible rfl
                        rotate_left
                        · simp only [Act.put, List.setIfInBounds_toArray, List.set_cons_zero, List.set_cons_succ, i64_w, i32_w]
                          rfl
                        refine pure_ (i := 21) (N := some 33) (v := ?_) (a' := ?_) #[true, true, true, true, true, true, true, true, true, true, true, true, true, true, true, true, true, true, true, true, true, true, false, false] rfl rfl (any_of HT_.out (by kernel_rfl)) (fun _ _ _ h => h) (Or.inl ⟨by rfl, ?_⟩) ?_ ?_
                        rotate_left
                        · intro w'
                          go_simp
                          with_reducible rfl
                        rotate_left
                        · simp only [Act.put, List.setIfInBounds_toArray, List.set_cons_zero, List.set_cons_succ, i64_w, i32_w]
                          rfl
                        refine pure_ (i := 22) (N := some 34) (v := ?_) (a' := ?_) #[true, true, true, true, true, true, true, true, true, true, true, true, true, true, true, true, true, true, true, true, true, true, true, false] rfl rfl (any_of HT_.out (by kernel_rfl)) (fun _ _ _ h => h) (Or.inl ⟨by rfl, ?_⟩) ?_ ?_
                        rotate_left
                        · intro w'
                          go_simp
                          with_reducible rfl
                        rotate_left
                        · simp only [Act.put, List.setIfInBounds_toArray, List.set_cons_zero, List.set_cons_succ, i64_w, i32_w]
                          rfl
                        refine pure_ (i := 23) (N := some 35) (v := ?_) (a' := ?_) #[true, true, true, true, true, true, true, true, true, true, true, true, true, true, true, true, true, true, true, true, true, true, true, true] rfl rfl (any_of HT_.out (by kernel_rfl)) (fun _ _ _ h => h) (Or.inl ⟨by rfl, ?_⟩) ?_ ?_
                        rotate_left
                        · intro w'
                          go_simp
                          with_reducible rfl
                        rotate_left
                        · simp only [Act.put, List.setIfInBounds_toArray, List.set_cons_zero, List.set_cons_succ, i64_w, i32_w]
                          rfl
                        refine done_ (done_of HT_.out (by kernel_rfl)) ?_
                        try go_wp2
                        go_roundg k1
                        case measure => have := HK1.out; omega
                        case rel => exact ⟨(wrap64 (x7_1 + 1)), (by first | rfl | (simp; done) | (simp [*]; done)), H', ⟨by have := HK1.out; omega⟩, ⟨by repeat (first | (with_reducible first | exact HB.out | apply below_alloc | apply pw_below_drewN | apply below_drew1 | refine below_set ?_ GE124.out) | exact HB.out)⟩⟩
                    · rw [if_neg c18] at H
                      exact absurd H (by simp)
                  · rw [if_neg c17] at H
                    exact absurd H (by simp)
                · rw [if_neg c15] at H
                  have c15b0 : (((rd_T26 l0 x7_1).f2) == 0) = false := beq_eq_false_iff_ne.mpr c15
                  have c15b1 : (((rd_T26 l0 x7_1).f2) != 0) = true := bne_iff_ne.mpr c15
                  have H' := Aside0.mk H
                  clear H
                  have p123 : 0 ≤ (x7_1 : Int) := of_decide_eq_true (by first | (with_reducible assumption) | assumption)
                  have q123 : x7_1 < (l0.length : Int) := of_decide_eq_true (by first | (with_reducible assumption) | assumption)
                  obtain ⟨ad123, e123, hx123_0, hx123_1, hx123_2, hx123_3, hx123_4, hx123_5, hx123_6⟩ := at_T26 HR0.out x7_1 p123 q123
                  cases e123
                  replace hx123_0 := (HB.out.cell (World.block_lt_of_cell? w _ hx123_0)).trans hx123_0
                  replace hx123_1 := (HB.out.cell (World.block_lt_of_cell? w _ hx123_1)).trans hx123_1
                  replace hx123_2 := (HB.out.cell (World.block_lt_of_cell? w _ hx123_2)).trans hx123_2
                  replace hx123_3 := (HB.out.cell (World.block_lt_of_cell? w _ hx123_3)).trans hx123_3
                  replace hx123_4 := (HB.out.cell (World.block_lt_of_cell? w _ hx123_4)).trans hx123_4
                  replace hx123_5 := (HB.out.cell (World.block_lt_of_cell? w _ hx123_5)).trans hx123_5
                  replace hx123_6 := (HB.out.cell (World.block_lt_of_cell? w _ hx123_6)).trans hx123_6
                  replace p123 := eq_true p123
                  replace q123 := eq_true q123
                  try go_wp2_with (first | ((with_reducible refine gate_dst (N := 4) rfl ?_); refine box_event ?hg (N := 4) ?hd (cs := #[.int .i32 0, .int .i32 0, .int .i32 0, .int .u8 0, .int .u8 0, .int .u8 0, .int .u8 0]) (t := 26) ?hr ?_; (case hd => rfl); (case hg => rfl); (case hr => first | (go_simp; done) | (go_simp; rfl)); intro gb124 hg w32 hbox hb; have n0_ := Aside0.mk (below_step (by repeat (first | (with_reducible first | exact HB.out | apply below_alloc | apply pw_below_drewN | apply below_drew1) | exact HB.out)) hb); have n1_ := Aside0.mk (hbox); have n2_ := Aside0.mk ((by rw [hg]; exact (below_size (by repeat (first | (with_reducible first | exact HB.out | apply below_alloc | apply pw_below_drewN | apply below_drew1) | exact HB.out))) : w.heap.size ≤ gb124)); have n3_ := Aside0.mk ((by rw [hg]; exact (below_size (by repeat (first | (with_reducible first | exact HB.out | apply below_alloc | apply pw_below_drewN | apply below_drew1) | exact HB.out))) : w.heap.size ≤ gb124)); clear HB; have HB := n0_; have BK124 := n1_; have GW124 := n2_; have GE124 := n3_; clear n0_ n1_ n2_ n3_; clear hb hbox hg; have hcz33_0 : w32.cell? ⟨gb124, 0, none⟩ = some (.int .i32 0) := (blk_cell BK124.out 0).trans rfl; have hcz33_1 : w32.cell? ⟨gb124, 1, none⟩ = some (.int .i32 0) := (blk_cell BK124.out 1).trans rfl; have hcz33_2 : w32.cell? ⟨gb124, 2, none⟩ = some (.int .i32 0) := (blk_cell BK124.out 2).trans rfl; have hcz33_3 : w32.cell? ⟨gb124, 3, none⟩ = some (.int .u8 0) := (blk_cell BK124.out 3).trans rfl; have hcz33_4 : w32.cell? ⟨gb124, 4, none⟩ = some (.int .u8 0) := (blk_cell BK124.out 4).trans rfl; have hcz33_5 : w32.cell? ⟨gb124, 5, none⟩ = some (.int .u8 0) := (blk_cell BK124.out 5).trans rfl; have hcz33_6 : w32.cell? ⟨gb124, 6, none⟩ = some (.int .u8 0) := (blk_cell BK124.out 6).trans rfl; have hfz33_0 := blk_frozen BK124.out 0; have hfz33_1 := blk_frozen BK124.out 1; have hfz33_2 := blk_frozen BK124.out 2; have hfz33_3 := blk_frozen BK124.out 3; have hfz33_4 := blk_frozen BK124.out 4; have hfz33_5 := blk_frozen BK124.out 5; have hfz33_6 := blk_frozen BK124.out 6))
                  have n0_ : Aside0 ((((((((w32.setCell ⟨gb124, 0, none⟩ (.int .i32 ((rd_T26 l0 x7_1).f0))).setCell ⟨gb124, 1, none⟩ (.int .i32 ((rd_T26 l0 x7_1).f1.f0))).setCell ⟨gb124, 2, none⟩ (.int .i32 ((rd_T26 l0 x7_1).f1.f1))).setCell ⟨gb124, 3, none⟩ (.int .u8 ((rd_T26 l0 x7_1).f2))).setCell ⟨gb124, 4, none⟩ (.int .u8 ((rd_T26 l0 x7_1).f3.f0))).setCell ⟨gb124, 5, none⟩ (.int .u8 ((rd_T26 l0 x7_1).f3.f1))).setCell ⟨gb124, 6, none⟩ (.int .u8 ((rd_T26 l0 x7_1).f3.f2))).heap[gb124]? = some (.cells #[.int .i32 ((rd_T26 l0 x7_1).f0), .int .i32 ((rd_T26 l0 x7_1).f1.f0), .int .i32 ((rd_T26 l0 x7_1).f1.f1), .int .u8 ((rd_T26 l0 x7_1).f2), .int .u8 ((rd_T26 l0 x7_1).f3.f0), .int .u8 ((rd_T26 l0 x7_1).f3.f1), .int .u8 ((rd_T26 l0 x7_1).f3.f2)] 26 (0, 0))) := ⟨by (with_reducible repeat (first | refine blk_drewN ?_ _ | refine blk_drew ?_ | refine blk_alloc ?_ _)); refine blk_put (cs := #[.int .i32 ((rd_T26 l0 x7_1).f0), .int .i32 ((rd_T26 l0 x7_1).f1.f0), .int .i32 ((rd_T26 l0 x7_1).f1.f1), .int .u8 ((rd_T26 l0 x7_1).f2), .int .u8 ((rd_T26 l0 x7_1).f3.f0), .int .u8 ((rd_T26 l0 x7_1).f3.f1), .int .u8 0]) ?_ 6 _ rfl; (with_reducible repeat (first | refine blk_drewN ?_ _ | refine blk_drew ?_ | refine blk_alloc ?_ _)); refine blk_put (cs := #[.int .i32 ((rd_T26 l0 x7_1).f0), .int .i32 ((rd_T26 l0 x7_1).f1.f0), .int .i32 ((rd_T26 l0 x7_1).f1.f1), .int .u8 ((rd_T26 l0 x7_1).f2), .int .u8 ((rd_T26 l0 x7_1).f3.f0), .int .u8 0, .int .u8 0]) ?_ 5 _ rfl; (with_reducible repeat (first | refine blk_drewN ?_ _ | refine blk_drew ?_ | refine blk_alloc ?_ _)); refine blk_put (cs := #[.int .i32 ((rd_T26 l0 x7_1).f0), .int .i32 ((rd_T26 l0 x7_1).f1.f0), .int .i32 ((rd_T26 l0 x7_1).f1.f1), .int .u8 ((rd_T26 l0 x7_1).f2), .int .u8 0, .int .u8 0, .int .u8 0]) ?_ 4 _ rfl; (with_reducible repeat (first | refine blk_drewN ?_ _ | refine blk_drew ?_ | refine blk_alloc ?_ _)); refine blk_put (cs := #[.int .i32 ((rd_T26 l0 x7_1).f0), .int .i32 ((rd_T26 l0 x7_1).f1.f0), .int .i32 ((rd_T26 l0 x7_1).f1.f1), .int .u8 0, .int .u8 0, .int .u8 0, .int .u8 0]) ?_ 3 _ rfl; (with_reducible repeat (first | refine blk_drewN ?_ _ | refine blk_drew ?_ | refine blk_alloc ?_ _)); refine blk_put (cs := #[.int .i32 ((rd_T26 l0 x7_1).f0), .int .i32 ((rd_T26 l0 x7_1).f1.f0), .int .i32 0, .int .u8 0, .int .u8 0, .int .u8 0, .int .u8 0]) ?_ 2 _ rfl; (with_reducible repeat (first | refine blk_drewN ?_ _ | refine blk_drew ?_ | refine blk_alloc ?_ _)); refine blk_put (cs := #[.int .i32 ((rd_T26 l0 x7_1).f0), .int .i32 0, .int .i32 0, .int .u8 0, .int .u8 0, .int .u8 0, .int .u8 0]) ?_ 1 _ rfl; (with_reducible repeat (first | refine blk_drewN ?_ _ | refine blk_drew ?_ | refine blk_alloc ?_ _)); refine blk_put (cs := #[.int .i32 0, .int .i32 0, .int .i32 0, .int .u8 0, .int .u8 0, .int .u8 0, .int .u8 0]) ?_ 0 _ rfl; (with_reducible repeat (first | refine blk_drewN ?_ _ | refine blk_drew ?_ | refine blk_alloc ?_ _)); exact BK124.out⟩
                  have n1_ : Aside0 (Below w.heap.size w (((((((w32.setCell ⟨gb124, 0, none⟩ (.int .i32 ((rd_T26 l0 x7_1).f0))).setCell ⟨gb124, 1, none⟩ (.int .i32 ((rd_T26 l0 x7_1).f1.f0))).setCell ⟨gb124, 2, none⟩ (.int .i32 ((rd_T26 l0 x7_1).f1.f1))).setCell ⟨gb124, 3, none⟩ (.int .u8 ((rd_T26 l0 x7_1).f2))).setCell ⟨gb124, 4, none⟩ (.int .u8 ((rd_T26 l0 x7_1).f3.f0))).setCell ⟨gb124, 5, none⟩ (.int .u8 ((rd_T26 l0 x7_1).f3.f1))).setCell ⟨gb124, 6, none⟩ (.int .u8 ((rd_T26 l0 x7_1).f3.f2)))) := ⟨by repeat (first | (with_reducible first | exact HB.out | apply below_alloc | apply pw_below_drewN | apply below_drew1 | refine below_set ?_ GE124.out) | exact HB.out)⟩
                  (try clear BK124)
                  (try clear HB)
                  generalize (((((((w32.setCell ⟨gb124, 0, none⟩ (.int .i32 ((rd_T26 l0 x7_1).f0))).setCell ⟨gb124, 1, none⟩ (.int .i32 ((rd_T26 l0 x7_1).f1.f0))).setCell ⟨gb124, 2, none⟩ (.int .i32 ((rd_T26 l0 x7_1).f1.f1))).setCell ⟨gb124, 3, none⟩ (.int .u8 ((rd_T26 l0 x7_1).f2))).setCell ⟨gb124, 4, none⟩ (.int .u8 ((rd_T26 l0 x7_1).f3.f0))).setCell ⟨gb124, 5, none⟩ (.int .u8 ((rd_T26 l0 x7_1).f3.f1))).setCell ⟨gb124, 6, none⟩ (.int .u8 ((rd_T26 l0 x7_1).f3.f2))) = w34 at n0_ n1_ ⊢
                  have BK124 := n0_
                  have HB := n1_
                  clear n0_ n1_
                  have n0_ := Aside0.mk (blk_drew BK124.out)
                  have n1_ := Aside0.mk (below_drew1 HB.out)
                  clear BK124
                  clear HB
                  have BK124 := n0_
                  have HB := n1_
                  clear n0_ n1_
                  refine start_ (n := 24) (S := fun w' => w'.cell? ⟨gb124, 0, none⟩ = some (.int .i32 ((rd_T26 l0 x7_1).f0)) ∧ w'.cell? ⟨gb124, 1, none⟩ = some (.int .i32 ((rd_T26 l0 x7_1).f1.f0)) ∧ w'.cell? ⟨gb124, 2, none⟩ = some (.int .i32 ((rd_T26 l0 x7_1).f1.f1)) ∧ w'.cell? ⟨gb124, 3, none⟩ = some (.int .u8 ((rd_T26 l0 x7_1).f2)) ∧ w'.cell? ⟨gb124, 4, none⟩ = some (.int .u8 ((rd_T26 l0 x7_1).f3.f0)) ∧ w'.cell? ⟨gb124, 5, none⟩ = some (.int .u8 ((rd_T26 l0 x7_1).f3.f1)) ∧ w'.cell? ⟨gb124, 6, none⟩ = some (.int .u8 ((rd_T26 l0 x7_1).f3.f2))) (ds := []) #[false, false, false, false, false, false, false, false, false, false, false, false, false, false, false, false, false, false, false, false, false, false, false, false] (by kernel_rfl) rfl rfl ⟨(blk_cell BK124.out 0).trans rfl, (blk_cell BK124.out 1).trans rfl, (blk_cell BK124.out 2).trans rfl, (blk_cell BK124.out 3).trans rfl, (blk_cell BK124.out 4).trans rfl, (blk_cell BK124.out 5).trans rfl, (blk_cell BK124.out 6).trans rfl⟩ (fun hHeld => ?_); refine with_tabW line_Right.tab4 line_Right.bits4 (fun HT_ HW_ => ?_)
                  generalize w34.drew = w35 at BK124 HB hHeld ⊢
                  refine take_ (i := 0) (N := some 12) (v := ?_) (a' := ?_) #[true, false, false, false, false, false, false, false, false, false, false, false, false, false, false, false, false, false, false, false, false, false, false, false] rfl rfl (take_ofW HT_.out HW_.out (by kernel_rfl)) (fun _ _ _ h => h) (Or.inl ⟨by rfl, ?_⟩) hHeld ?_ ?_
                  rotate_left
                  · rintro w' ⟨s0, s1, s2, s3, s4, s5, s6⟩
                    go_simp
                    with_reducible rfl
                  rotate_left
                  · simp only [Act.put, List.setIfInBounds_toArray, List.set_cons_zero, List.set_cons_succ, i64_w, i32_w]
                    rfl
                  refine one_ (i := 1) (N := some 13) #[true, true, false, false, false, false, false, false, false, false, false, false, false, false, false, false, false, false, false, false, false, false, false, false] rfl rfl (one_of HT_.out (by kernel_rfl)) (by decide) (fun K hK => ?_)
                  refine goes_ Try.func26 (by kernel_rfl) rfl #[.agg #[.int .i32 ((rd_T26 l0 x7_1).f0), .int .i32 ((rd_T26 l0 x7_1).f1.f0), .int .i32 ((rd_T26 l0 x7_1).f1.f1), .int .u8 ((rd_T26 l0 x7_1).f2), .int .u8 ((rd_T26 l0 x7_1).f3.f0), .int .u8 ((rd_T26 l0 x7_1).f3.f1), .int .u8 ((rd_T26 l0 x7_1).f3.f2)]] (by rfl) rfl rfl (by (try simp only [List.map_toArray, List.map_cons, List.map_nil]); first | done | rfl | (simp only [List.length_drop, List.length_take]; rfl)) ?_
                  with_reducible refine (cell_Right.calls ((rd_T26 l0 x7_1).f0) ((rd_T26 l0 x7_1).f1.f0) ((rd_T26 l0 x7_1).f1.f1) ((rd_T26 l0 x7_1).f2) ((rd_T26 l0 x7_1).f3.f0) ((rd_T26 l0 x7_1).f3.f1) ((rd_T26 l0 x7_1).f3.f2) true _ A5.out).mono ?_
                  rintro e w36 ⟨rfl, hb⟩
                  refine ⟨_, rfl, ?_⟩
                  have n0_ := Aside0.mk (blk_below (g := gb124) (o := .cells #[.int .i32 ((rd_T26 l0 x7_1).f0), .int .i32 ((rd_T26 l0 x7_1).f1.f0), .int .i32 ((rd_T26 l0 x7_1).f1.f1), .int .u8 ((rd_T26 l0 x7_1).f2), .int .u8 ((rd_T26 l0 x7_1).f3.f0), .int .u8 ((rd_T26 l0 x7_1).f3.f1), .int .u8 ((rd_T26 l0 x7_1).f3.f2)] 26 (0, 0)) (by (with_reducible repeat (first | refine blk_drewN ?_ _ | refine blk_drew ?_ | refine blk_alloc ?_ _)); exact BK124.out) hb)
                  have n1_ := Aside0.mk (below_step (by repeat (first | (with_reducible first | exact HB.out | apply below_alloc | apply pw_below_drewN | apply below_drew1 | refine below_set ?_ GE124.out) | exact HB.out)) hb)
                  clear BK124
                  clear HB
                  have BK124 := n0_
                  have HB := n1_
                  clear n0_ n1_
                  (try clear hb)
                  (try clear hb2)
                  (try clear hk)
                  (try clear hi)
                  refine hK.out _ _ ⟨(blk_cell BK124.out 0).trans rfl, (blk_cell BK124.out 1).trans rfl, (blk_cell BK124.out 2).trans rfl, (blk_cell BK124.out 3).trans rfl, (blk_cell BK124.out 4).trans rfl, (blk_cell BK124.out 5).trans rfl, (blk_cell BK124.out 6).trans rfl⟩ (fun hHeld => ?_)
                  clear hK K
                  refine norm_ (a' := ?_) ?_ ?_
                  rotate_left
                  · show Act.put _ (some 13) _ = _
                    simp only [Act.put, List.setIfInBounds_toArray, List.set_cons_zero, List.set_cons_succ, i64_w, i32_w]
                    rfl
                  refine pure_ (i := 2) (N := some 14) (v := ?_) (a' := ?_) #[true, true, true, false, false, false, false, false, false, false, false, false, false, false, false, false, false, false, false, false, false, false, false, false] rfl rfl (any_of HT_.out (by kernel_rfl)) (fun _ _ _ h => h) (Or.inl ⟨by rfl, ?_⟩) ?_ ?_
                  rotate_left
                  · intro w'
                    go_simp
                    with_reducible rfl
                  rotate_left
                  · simp only [Act.put, List.setIfInBounds_toArray, List.set_cons_zero, List.set_cons_succ, i64_w, i32_w]
                    rfl
                  refine pure_ (i := 3) (N := some 15) (v := ?_) (a' := ?_) #[true, true, true, true, false, false, false, false, false, false, false, false, false, false, false, false, false, false, false, false, false, false, false, false] rfl rfl (any_of HT_.out (by kernel_rfl)) (fun _ _ _ h => h) (Or.inl ⟨by rfl, ?_⟩) ?_ ?_
                  rotate_left
                  · intro w'
                    go_simp
                    with_reducible rfl
                  rotate_left
                  · simp only [Act.put, List.setIfInBounds_toArray, List.set_cons_zero, List.set_cons_succ, i64_w, i32_w]
                    rfl
                  refine pure_ (i := 4) (N := some 16) (v := ?_) (a' := ?_) #[true, true, true, true, true, false, false, false, false, false, false, false, false, false, false, false, false, false, false, false, false, false, false, false] rfl rfl (any_of HT_.out (by kernel_rfl)) (fun _ _ _ h => h) (Or.inl ⟨by rfl, ?_⟩) ?_ ?_
                  rotate_left
                  · intro w'
                    go_simp
                    with_reducible rfl
                  rotate_left
                  · simp only [Act.put, List.setIfInBounds_toArray, List.set_cons_zero, List.set_cons_succ, i64_w, i32_w]
                    rfl
                  refine pure_ (i := 5) (N := some 17) (v := ?_) (a' := ?_) #[true, true, true, true, true, true, false, false, false, false, false, false, false, false, false, false, false, false, false, false, false, false, false, false] rfl rfl (any_of HT_.out (by kernel_rfl)) (fun _ _ _ h => h) (Or.inl ⟨by rfl, ?_⟩) ?_ ?_
                  rotate_left
                  · intro w'
                    go_simp
                    with_reducible rfl
                  rotate_left
                  · simp only [Act.put, List.setIfInBounds_toArray, List.set_cons_zero, List.set_cons_succ, i64_w, i32_w]
                    rfl
                  refine one_ (i := 6) (N := some 18) #[true, true, true, true, true, true, true, false, false, false, false, false, false, false, false, false, false, false, false, false, false, false, false, false] rfl rfl (one_of HT_.out (by kernel_rfl)) (by decide) (fun K hK => ?_)
                  refine goes_ Try.func94 (by kernel_rfl) rfl #[.slice (some ad123) l0.length c0, .int .i64 x7_1] (by rfl) rfl rfl (by (try simp only [List.map_toArray, List.map_cons, List.map_nil]); first | done | rfl | (simp only [List.length_drop, List.length_take]; rfl)) ?_
                  with_reducible refine (line_alone.calls _ _ l0 x7_1 false _ ?side1 ?side2 A7.out).mono ?_
                  (case side1 => repeat (first | exact (Kd.C_below HR0.out HB.out) | (with_reducible refine Kd.C_alloc ?_ _) | (with_reducible refine Kd.C_drewN ?_ _) | (with_reducible refine Kd.C_drew ?_)))
                  (case side2 => exact HC0.out)
                  rintro e w37 ⟨rfl, hb⟩
                  refine ⟨_, rfl, ?_⟩
                  have n0_ := Aside0.mk (blk_below (g := gb124) (o := .cells #[.int .i32 ((rd_T26 l0 x7_1).f0), .int .i32 ((rd_T26 l0 x7_1).f1.f0), .int .i32 ((rd_T26 l0 x7_1).f1.f1), .int .u8 ((rd_T26 l0 x7_1).f2), .int .u8 ((rd_T26 l0 x7_1).f3.f0), .int .u8 ((rd_T26 l0 x7_1).f3.f1), .int .u8 ((rd_T26 l0 x7_1).f3.f2)] 26 (0, 0)) (by (with_reducible repeat (first | refine blk_drewN ?_ _ | refine blk_drew ?_ | refine blk_alloc ?_ _)); exact BK124.out) hb)
                  have n1_ := Aside0.mk (below_step (by repeat (first | (with_reducible first | exact HB.out | apply below_alloc | apply pw_below_drewN | apply below_drew1 | refine below_set ?_ GE124.out) | exact HB.out)) hb)
                  clear BK124
                  clear HB
                  have BK124 := n0_
                  have HB := n1_
                  clear n0_ n1_
                  (try clear hb)
                  (try clear hb2)
                  (try clear hk)
                  (try clear hi)
                  refine hK.out _ _ ⟨(blk_cell BK124.out 0).trans rfl, (blk_cell BK124.out 1).trans rfl, (blk_cell BK124.out 2).trans rfl, (blk_cell BK124.out 3).trans rfl, (blk_cell BK124.out 4).trans rfl, (blk_cell BK124.out 5).trans rfl, (blk_cell BK124.out 6).trans rfl⟩ (fun hHeld => ?_)
                  clear hK K
                  refine norm_ (a' := ?_) ?_ ?_
                  rotate_left
                  · show Act.put _ (some 18) _ = _
                    simp only [Act.put, List.setIfInBounds_toArray, List.set_cons_zero, List.set_cons_succ, i64_w, i32_w]
                    rfl
                  refine pure_ (i := 7) (N := some 19) (v := ?_) (a' := ?_) #[true, true, true, true, true, true, true, true, false, false, false, false, false, false, false, false, false, false, false, false, false, false, false, false] rfl rfl (any_of HT_.out (by kernel_rfl)) (fun _ _ _ h => h) (Or.inl ⟨by rfl, ?_⟩) ?_ ?_
                  rotate_left
                  · intro w'
                    go_simp
                    with_reducible rfl
                  rotate_left
                  · simp only [Act.put, List.setIfInBounds_toArray, List.set_cons_zero, List.set_cons_succ, i64_w, i32_w]
                    rfl
                  refine pure_ (i := 8) (N := some 20) (v := ?_) (a' := ?_) #[true, true, true, true, true, true, true, true, true, false, false, false, false, false, false, false, false, false, false, false, false, false, false, false] rfl rfl (any_of HT_.out (by kernel_rfl)) (fun _ _ _ h => h) (Or.inl ⟨by rfl, ?_⟩) ?_ ?_
                  rotate_left
                  · intro w'
                    go_simp
                    with_reducible rfl
                  rotate_left
                  · simp only [Act.put, List.setIfInBounds_toArray, List.set_cons_zero, List.set_cons_succ, i64_w, i32_w]
                    rfl
                  refine pure_ (i := 9) (N := some 21) (v := ?_) (a' := ?_) #[true, true, true, true, true, true, true, true, true, true, false, false, false, false, false, false, false, false, false, false, false, false, false, false] rfl rfl (any_of HT_.out (by kernel_rfl)) (fun _ _ _ h => h) (Or.inl ⟨by rfl, ?_⟩) ?_ ?_
                  rotate_left
                  · intro w'
                    go_simp
                    with_reducible rfl
                  rotate_left
                  · simp only [Act.put, List.setIfInBounds_toArray, List.set_cons_zero, List.set_cons_succ, i64_w, i32_w]
                    rfl
                  refine take_ (i := 10) (N := some 22) (v := ?_) (a' := ?_) #[true, true, true, true, true, true, true, true, true, true, true, false, false, false, false, false, false, false, false, false, false, false, false, false] rfl rfl (take_ofW HT_.out HW_.out (by kernel_rfl)) (fun _ _ _ h => h) (Or.inl ⟨by rfl, ?_⟩) hHeld ?_ ?_
                  rotate_left
                  · rintro w' ⟨s0, s1, s2, s3, s4, s5, s6⟩
                    go_simp
                    with_reducible rfl
                  rotate_left
                  · simp only [Act.put, List.setIfInBounds_toArray, List.set_cons_zero, List.set_cons_succ, i64_w, i32_w]
                    rfl
                  refine pure_ (i := 11) (N := some 23) (v := ?_) (a' := ?_) #[true, true, true, true, true, true, true, true, true, true, true, true, false, false, false, false, false, false, false, false, false, false, false, false] rfl rfl (any_of HT_.out (by kernel_rfl)) (fun _ _ _ h => h) (Or.inl ⟨by rfl, ?_⟩) ?_ ?_
                  rotate_left
                  · intro w'
                    go_simp
                    with_reducible rfl
                  rotate_left
                  · simp only [Act.put, List.setIfInBounds_toArray, List.set_cons_zero, List.set_cons_succ, i64_w, i32_w]
                    rfl
                  refine pure_ (i := 12) (N := some 24) (v := ?_) (a' := ?_) #[true, true, true, true, true, true, true, true, true, true, true, true, true, false, false, false, false, false, false, false, false, false, false, false] rfl rfl (any_of HT_.out (by kernel_rfl)) (fun _ _ _ h => h) (Or.inl ⟨by rfl, ?_⟩) ?_ ?_
                  rotate_left
                  · intro w'
                    go_simp
                    with_reducible rfl
                  rotate_left
                  · simp only [Act.put, List.setIfInBounds_toArray, List.set_cons_zero, List.set_cons_succ, i64_w, i32_w]
                    rfl
                  refine pure_ (i := 13) (N := some 25) (v := undef) (a' := ?_) #[true, true, true, true, true, true, true, true, true, true, true, true, true, true, false, false, false, false, false, false, false, false, false, false] rfl rfl (any_of HT_.out (by kernel_rfl)) (fun _ _ _ h => h) (Or.inr ⟨by rfl, rfl⟩) ?_ ?_
                  rotate_left
                  · simp only [Act.put, List.setIfInBounds_toArray, List.set_cons_zero, List.set_cons_succ, i64_w, i32_w]
                    rfl
                  refine pure_ (i := 14) (N := some 26) (v := undef) (a' := ?_) #[true, true, true, true, true, true, true, true, true, true, true, true, true, true, true, false, false, false, false, false, false, false, false, false] rfl rfl (any_of HT_.out (by kernel_rfl)) (fun _ _ _ h => h) (Or.inr ⟨by rfl, rfl⟩) ?_ ?_
                  rotate_left
                  · simp only [Act.put, List.setIfInBounds_toArray, List.set_cons_zero, List.set_cons_succ, i64_w, i32_w]
                    rfl
                  refine pure_ (i := 15) (N := some 27) (v := undef) (a' := ?_) #[true, true, true, true, true, true, true, true, true, true, true, true, true, true, true, true, false, false, false, false, false, false, false, false] rfl rfl (any_of HT_.out (by kernel_rfl)) (fun _ _ _ h => h) (Or.inr ⟨by rfl, rfl⟩) ?_ ?_
                  rotate_left
                  · simp only [Act.put, List.setIfInBounds_toArray, List.set_cons_zero, List.set_cons_succ, i64_w, i32_w]
                    rfl
                  refine pure_ (i := 16) (N := some 28) (v := undef) (a' := ?_) #[true, true, true, true, true, true, true, true, true, true, true, true, true, true, true, true, true, false, false, false, false, false, false, false] rfl rfl (any_of HT_.out (by kernel_rfl)) (fun _ _ _ h => h) (Or.inr ⟨by rfl, rfl⟩) ?_ ?_
                  rotate_left
                  · simp only [Act.put, List.setIfInBounds_toArray, List.set_cons_zero, List.set_cons_succ, i64_w, i32_w]
                    rfl
                  refine pure_ (i := 17) (N := some 29) (v := undef) (a' := ?_) #[true, true, true, true, true, true, true, true, true, true, true, true, true, true, true, true, true, true, false, false, false, false, false, false] rfl rfl (any_of HT_.out (by kernel_rfl)) (fun _ _ _ h => h) (Or.inr ⟨by rfl, rfl⟩) ?_ ?_
                  rotate_left
                  · simp only [Act.put, List.setIfInBounds_toArray, List.set_cons_zero, List.set_cons_succ, i64_w, i32_w]
                    rfl
                  refine pure_ (i := 18) (N := some 30) (v := undef) (a' := ?_) #[true, true, true, true, true, true, true, true, true, true, true, true, true, true, true, true, true, true, true, false, false, false, false, false] rfl rfl (any_of HT_.out (by kernel_rfl)) (fun _ _ _ h => h) (Or.inr ⟨by rfl, rfl⟩) ?_ ?_
                  rotate_left
                  · simp only [Act.put, List.setIfInBounds_toArray, List.set_cons_zero, List.set_cons_succ, i64_w, i32_w]
                    rfl
                  refine pure_ (i := 19) (N := some 31) (v := undef) (a' := ?_) #[true, true, true, true, true, true, true, true, true, true, true, true, true, true, true, true, true, true, true, true, false, false, false, false] rfl rfl (any_of HT_.out (by kernel_rfl)) (fun _ _ _ h => h) (Or.inr ⟨by rfl, rfl⟩) ?_ ?_
                  rotate_left
                  · simp only [Act.put, List.setIfInBounds_toArray, List.set_cons_zero, List.set_cons_succ, i64_w, i32_w]
                    rfl
                  refine pure_ (i := 20) (N := some 32) (v := undef) (a' := ?_) #[true, true, true, true, true, true, true, true, true, true, true, true, true, true, true, true, true, true, true, true, true, false, false, false] rfl rfl (any_of HT_.out (by kernel_rfl)) (fun _ _ _ h => h) (Or.inr ⟨by rfl, rfl⟩) ?_ ?_
                  rotate_left
                  · simp only [Act.put, List.setIfInBounds_toArray, List.set_cons_zero, List.set_cons_succ, i64_w, i32_w]
                    rfl
                  refine pure_ (i := 21) (N := some 33) (v := undef) (a' := ?_) #[true, true, true, true, true, true, true, true, true, true, true, true, true, true, true, true, true, true, true, true, true, true, false, false] rfl rfl (any_of HT_.out (by kernel_rfl)) (fun _ _ _ h => h) (Or.inr ⟨by rfl, rfl⟩) ?_ ?_
                  rotate_left
                  · simp only [Act.put, List.setIfInBounds_toArray, List.set_cons_zero, List.set_cons_succ, i64_w, i32_w]
                    rfl
                  refine pure_ (i := 22) (N := some 34) (v := ?_) (a' := ?_) #[true, true, true, true, true, true, true, true, true, true, true, true, true, true, true, true, true, true, true, true, true, true, true, false] rfl rfl (any_of HT_.out (by kernel_rfl)) (fun _ _ _ h => h) (Or.inl ⟨by rfl, ?_⟩) ?_ ?_
                  rotate_left
                  · intro w'
                    go_simp
                    with_reducible rfl
                  rotate_left
                  · simp only [Act.put, List.setIfInBounds_toArray, List.set_cons_zero, List.set_cons_succ, i64_w, i32_w]
                    rfl
                  refine pure_ (i := 23) (N := some 35) (v := ?_) (a' := ?_) #[true, true, true, true, true, true, true, true, true, true, true, true, true, true, true, true, true, true, true, true, true, true, true, true] rfl rfl (any_of HT_.out (by kernel_rfl)) (fun _ _ _ h => h) (Or.inl ⟨by rfl, ?_⟩) ?_ ?_
                  rotate_left
                  · intro w'
                    go_simp
                    with_reducible rfl
                  rotate_left
                  · simp only [Act.put, List.setIfInBounds_toArray, List.set_cons_zero, List.set_cons_succ, i64_w, i32_w]
                    rfl
                  refine done_ (done_of HT_.out (by kernel_rfl)) ?_
                  try go_wp2
                  go_roundg k1
                  case measure => have := HK1.out; omega
                  case rel => exact ⟨(wrap64 (x7_1 + 1)), (by first | rfl | (simp; done) | (simp [*]; done)), H', ⟨by have := HK1.out; omega⟩, ⟨by repeat (first | (with_reducible first | exact HB.out | apply below_alloc | apply pw_below_drewN | apply below_drew1 | refine below_set ?_ GE124.out) | exact HB.out)⟩⟩
            · replace c6 := Bool.eq_false_iff.mpr c6
              subst c6
              have H1 : (some false) = some r := by rw [if_neg (show ¬ (false = true) by decide)] at H; exact H
              clear H
              have H := H1
              clear H1
              obtain rfl := Option.some.inj H
              have p123 : 0 ≤ (x7_1 : Int) := of_decide_eq_true (by first | (with_reducible assumption) | assumption)
              have q123 : x7_1 < (l0.length : Int) := of_decide_eq_true (by first | (with_reducible assumption) | assumption)
              obtain ⟨ad123, e123, hx123_0, hx123_1, hx123_2, hx123_3, hx123_4, hx123_5, hx123_6⟩ := at_T26 HR0.out x7_1 p123 q123
              cases e123
              replace hx123_0 := (HB.out.cell (World.block_lt_of_cell? w _ hx123_0)).trans hx123_0
              replace hx123_1 := (HB.out.cell (World.block_lt_of_cell? w _ hx123_1)).trans hx123_1
              replace hx123_2 := (HB.out.cell (World.block_lt_of_cell? w _ hx123_2)).trans hx123_2
              replace hx123_3 := (HB.out.cell (World.block_lt_of_cell? w _ hx123_3)).trans hx123_3
              replace hx123_4 := (HB.out.cell (World.block_lt_of_cell? w _ hx123_4)).trans hx123_4
              replace hx123_5 := (HB.out.cell (World.block_lt_of_cell? w _ hx123_5)).trans hx123_5
              replace hx123_6 := (HB.out.cell (World.block_lt_of_cell? w _ hx123_6)).trans hx123_6
              replace p123 := eq_true p123
              replace q123 := eq_true q123
              try go_wp2_with (first | ((with_reducible refine gate_dst (N := 4) rfl ?_); refine box_event ?hg (N := 4) ?hd (cs := #[.int .i32 0, .int .i32 0, .int .i32 0, .int .u8 0, .int .u8 0, .int .u8 0, .int .u8 0]) (t := 26) ?hr ?_; (case hd => rfl); (case hg => rfl); (case hr => first | (go_simp; done) | (go_simp; rfl)); intro gb124 hg w38 hbox hb; have n0_ := Aside0.mk (below_step (by repeat (first | (with_reducible first | exact HB.out | apply below_alloc | apply pw_below_drewN | apply below_drew1) | exact HB.out)) hb); have n1_ := Aside0.mk (hbox); have n2_ := Aside0.mk ((by rw [hg]; exact (below_size (by repeat (first | (with_reducible first | exact HB.out | apply below_alloc | apply pw_below_drewN | apply below_drew1) | exact HB.out))) : w.heap.size ≤ gb124)); have n3_ := Aside0.mk ((by rw [hg]; exact (below_size (by repeat (first | (with_reducible first | exact HB.out | apply below_alloc | apply pw_below_drewN | apply below_drew1) | exact HB.out))) : w.heap.size ≤ gb124)); clear HB; have HB := n0_; have BK124 := n1_; have GW124 := n2_; have GE124 := n3_; clear n0_ n1_ n2_ n3_; clear hb hbox hg; have hcz39_0 : w38.cell? ⟨gb124, 0, none⟩ = some (.int .i32 0) := (blk_cell BK124.out 0).trans rfl; have hcz39_1 : w38.cell? ⟨gb124, 1, none⟩ = some (.int .i32 0) := (blk_cell BK124.out 1).trans rfl; have hcz39_2 : w38.cell? ⟨gb124, 2, none⟩ = some (.int .i32 0) := (blk_cell BK124.out 2).trans rfl; have hcz39_3 : w38.cell? ⟨gb124, 3, none⟩ = some (.int .u8 0) := (blk_cell BK124.out 3).trans rfl; have hcz39_4 : w38.cell? ⟨gb124, 4, none⟩ = some (.int .u8 0) := (blk_cell BK124.out 4).trans rfl; have hcz39_5 : w38.cell? ⟨gb124, 5, none⟩ = some (.int .u8 0) := (blk_cell BK124.out 5).trans rfl; have hcz39_6 : w38.cell? ⟨gb124, 6, none⟩ = some (.int .u8 0) := (blk_cell BK124.out 6).trans rfl; have hfz39_0 := blk_frozen BK124.out 0; have hfz39_1 := blk_frozen BK124.out 1; have hfz39_2 := blk_frozen BK124.out 2; have hfz39_3 := blk_frozen BK124.out 3; have hfz39_4 := blk_frozen BK124.out 4; have hfz39_5 := blk_frozen BK124.out 5; have hfz39_6 := blk_frozen BK124.out 6))
              have n0_ : Aside0 ((((((((w38.setCell ⟨gb124, 0, none⟩ (.int .i32 ((rd_T26 l0 x7_1).f0))).setCell ⟨gb124, 1, none⟩ (.int .i32 ((rd_T26 l0 x7_1).f1.f0))).setCell ⟨gb124, 2, none⟩ (.int .i32 ((rd_T26 l0 x7_1).f1.f1))).setCell ⟨gb124, 3, none⟩ (.int .u8 ((rd_T26 l0 x7_1).f2))).setCell ⟨gb124, 4, none⟩ (.int .u8 ((rd_T26 l0 x7_1).f3.f0))).setCell ⟨gb124, 5, none⟩ (.int .u8 ((rd_T26 l0 x7_1).f3.f1))).setCell ⟨gb124, 6, none⟩ (.int .u8 ((rd_T26 l0 x7_1).f3.f2))).heap[gb124]? = some (.cells #[.int .i32 ((rd_T26 l0 x7_1).f0), .int .i32 ((rd_T26 l0 x7_1).f1.f0), .int .i32 ((rd_T26 l0 x7_1).f1.f1), .int .u8 ((rd_T26 l0 x7_1).f2), .int .u8 ((rd_T26 l0 x7_1).f3.f0), .int .u8 ((rd_T26 l0 x7_1).f3.f1), .int .u8 ((rd_T26 l0 x7_1).f3.f2)] 26 (0, 0))) := ⟨by (with_reducible repeat (first | refine blk_drewN ?_ _ | refine blk_drew ?_ | refine blk_alloc ?_ _)); refine blk_put (cs := #[.int .i32 ((rd_T26 l0 x7_1).f0), .int .i32 ((rd_T26 l0 x7_1).f1.f0), .int .i32 ((rd_T26 l0 x7_1).f1.f1), .int .u8 ((rd_T26 l0 x7_1).f2), .int .u8 ((rd_T26 l0 x7_1).f3.f0), .int .u8 ((rd_T26 l0 x7_1).f3.f1), .int .u8 0]) ?_ 6 _ rfl; (with_reducible repeat (first | refine blk_drewN ?_ _ | refine blk_drew ?_ | refine blk_alloc ?_ _)); refine blk_put (cs := #[.int .i32 ((rd_T26 l0 x7_1).f0), .int .i32 ((rd_T26 l0 x7_1).f1.f0), .int .i32 ((rd_T26 l0 x7_1).f1.f1), .int .u8 ((rd_T26 l0 x7_1).f2), .int .u8 ((rd_T26 l0 x7_1).f3.f0), .int .u8 0, .int .u8 0]) ?_ 5 _ rfl; (with_reducible repeat (first | refine blk_drewN ?_ _ | refine blk_drew ?_ | refine blk_alloc ?_ _)); refine blk_put (cs := #[.int .i32 ((rd_T26 l0 x7_1).f0), .int .i32 ((rd_T26 l0 x7_1).f1.f0), .int .i32 ((rd_T26 l0 x7_1).f1.f1), .int .u8 ((rd_T26 l0 x7_1).f2), .int .u8 0, .int .u8 0, .int .u8 0]) ?_ 4 _ rfl; (with_reducible repeat (first | refine blk_drewN ?_ _ | refine blk_drew ?_ | refine blk_alloc ?_ _)); refine blk_put (cs := #[.int .i32 ((rd_T26 l0 x7_1).f0), .int .i32 ((rd_T26 l0 x7_1).f1.f0), .int .i32 ((rd_T26 l0 x7_1).f1.f1), .int .u8 0, .int .u8 0, .int .u8 0, .int .u8 0]) ?_ 3 _ rfl; (with_reducible repeat (first | refine blk_drewN ?_ _ | refine blk_drew ?_ | refine blk_alloc ?_ _)); refine blk_put (cs := #[.int .i32 ((rd_T26 l0 x7_1).f0), .int .i32 ((rd_T26 l0 x7_1).f1.f0), .int .i32 0, .int .u8 0, .int .u8 0, .int .u8 0, .int .u8 0]) ?_ 2 _ rfl; (with_reducible repeat (first | refine blk_drewN ?_ _ | refine blk_drew ?_ | refine blk_alloc ?_ _)); refine blk_put (cs := #[.int .i32 ((rd_T26 l0 x7_1).f0), .int .i32 0, .int .i32 0, .int .u8 0, .int .u8 0, .int .u8 0, .int .u8 0]) ?_ 1 _ rfl; (with_reducible repeat (first | refine blk_drewN ?_ _ | refine blk_drew ?_ | refine blk_alloc ?_ _)); refine blk_put (cs := #[.int .i32 0, .int .i32 0, .int .i32 0, .int .u8 0, .int .u8 0, .int .u8 0, .int .u8 0]) ?_ 0 _ rfl; (with_reducible repeat (first | refine blk_drewN ?_ _ | refine blk_drew ?_ | refine blk_alloc ?_ _)); exact BK124.out⟩
              have n1_ : Aside0 (Below w.heap.size w (((((((w38.setCell ⟨gb124, 0, none⟩ (.int .i32 ((rd_T26 l0 x7_1).f0))).setCell ⟨gb124, 1, none⟩ (.int .i32 ((rd_T26 l0 x7_1).f1.f0))).setCell ⟨gb124, 2, none⟩ (.int .i32 ((rd_T26 l0 x7_1).f1.f1))).setCell ⟨gb124, 3, none⟩ (.int .u8 ((rd_T26 l0 x7_1).f2))).setCell ⟨gb124, 4, none⟩ (.int .u8 ((rd_T26 l0 x7_1).f3.f0))).setCell ⟨gb124, 5, none⟩ (.int .u8 ((rd_T26 l0 x7_1).f3.f1))).setCell ⟨gb124, 6, none⟩ (.int .u8 ((rd_T26 l0 x7_1).f3.f2)))) := ⟨by repeat (first | (with_reducible first | exact HB.out | apply below_alloc | apply pw_below_drewN | apply below_drew1 | refine below_set ?_ GE124.out) | exact HB.out)⟩
              (try clear BK124)
              (try clear HB)
              generalize (((((((w38.setCell ⟨gb124, 0, none⟩ (.int .i32 ((rd_T26 l0 x7_1).f0))).setCell ⟨gb124, 1, none⟩ (.int .i32 ((rd_T26 l0 x7_1).f1.f0))).setCell ⟨gb124, 2, none⟩ (.int .i32 ((rd_T26 l0 x7_1).f1.f1))).setCell ⟨gb124, 3, none⟩ (.int .u8 ((rd_T26 l0 x7_1).f2))).setCell ⟨gb124, 4, none⟩ (.int .u8 ((rd_T26 l0 x7_1).f3.f0))).setCell ⟨gb124, 5, none⟩ (.int .u8 ((rd_T26 l0 x7_1).f3.f1))).setCell ⟨gb124, 6, none⟩ (.int .u8 ((rd_T26 l0 x7_1).f3.f2))) = w40 at n0_ n1_ ⊢
              have BK124 := n0_
              have HB := n1_
              clear n0_ n1_
              have n0_ := Aside0.mk (blk_drew BK124.out)
              have n1_ := Aside0.mk (below_drew1 HB.out)
              clear BK124
              clear HB
              have BK124 := n0_
              have HB := n1_
              clear n0_ n1_
              refine start_ (n := 24) (S := fun w' => w'.cell? ⟨gb124, 0, none⟩ = some (.int .i32 ((rd_T26 l0 x7_1).f0)) ∧ w'.cell? ⟨gb124, 1, none⟩ = some (.int .i32 ((rd_T26 l0 x7_1).f1.f0)) ∧ w'.cell? ⟨gb124, 2, none⟩ = some (.int .i32 ((rd_T26 l0 x7_1).f1.f1)) ∧ w'.cell? ⟨gb124, 3, none⟩ = some (.int .u8 ((rd_T26 l0 x7_1).f2)) ∧ w'.cell? ⟨gb124, 4, none⟩ = some (.int .u8 ((rd_T26 l0 x7_1).f3.f0)) ∧ w'.cell? ⟨gb124, 5, none⟩ = some (.int .u8 ((rd_T26 l0 x7_1).f3.f1)) ∧ w'.cell? ⟨gb124, 6, none⟩ = some (.int .u8 ((rd_T26 l0 x7_1).f3.f2))) (ds := []) #[false, false, false, false, false, false, false, false, false, false, false, false, false, false, false, false, false, false, false, false, false, false, false, false] (by kernel_rfl) rfl rfl ⟨(blk_cell BK124.out 0).trans rfl, (blk_cell BK124.out 1).trans rfl, (blk_cell BK124.out 2).trans rfl, (blk_cell BK124.out 3).trans rfl, (blk_cell BK124.out 4).trans rfl, (blk_cell BK124.out 5).trans rfl, (blk_cell BK124.out 6).trans rfl⟩ (fun hHeld => ?_); refine with_tabW line_Right.tab4 line_Right.bits4 (fun HT_ HW_ => ?_)
              generalize w40.drew = w41 at BK124 HB hHeld ⊢
              refine take_ (i := 0) (N := some 12) (v := ?_) (a' := ?_) #[true, false, false, false, false, false, false, false, false, false, false, false, false, false, false, false, false, false, false, false, false, false, false, false] rfl rfl (take_ofW HT_.out HW_.out (by kernel_rfl)) (fun _ _ _ h => h) (Or.inl ⟨by rfl, ?_⟩) hHeld ?_ ?_
              rotate_left
              · rintro w' ⟨s0, s1, s2, s3, s4, s5, s6⟩
                go_simp
                with_reducible rfl
              rotate_left
              · simp only [Act.put, List.setIfInBounds_toArray, List.set_cons_zero, List.set_cons_succ, i64_w, i32_w]
                rfl
              refine one_ (i := 1) (N := some 13) #[true, true, false, false, false, false, false, false, false, false, false, false, false, false, false, false, false, false, false, false, false, false, false, false] rfl rfl (one_of HT_.out (by kernel_rfl)) (by decide) (fun K hK => ?_)
              refine goes_ Try.func26 (by kernel_rfl) rfl #[.agg #[.int .i32 ((rd_T26 l0 x7_1).f0), .int .i32 ((rd_T26 l0 x7_1).f1.f0), .int .i32 ((rd_T26 l0 x7_1).f1.f1), .int .u8 ((rd_T26 l0 x7_1).f2), .int .u8 ((rd_T26 l0 x7_1).f3.f0), .int .u8 ((rd_T26 l0 x7_1).f3.f1), .int .u8 ((rd_T26 l0 x7_1).f3.f2)]] (by rfl) rfl rfl (by (try simp only [List.map_toArray, List.map_cons, List.map_nil]); first | done | rfl | (simp only [List.length_drop, List.length_take]; rfl)) ?_
              with_reducible refine (cell_Right.calls ((rd_T26 l0 x7_1).f0) ((rd_T26 l0 x7_1).f1.f0) ((rd_T26 l0 x7_1).f1.f1) ((rd_T26 l0 x7_1).f2) ((rd_T26 l0 x7_1).f3.f0) ((rd_T26 l0 x7_1).f3.f1) ((rd_T26 l0 x7_1).f3.f2) false _ A5.out).mono ?_
              rintro e w42 ⟨rfl, hb⟩
              refine ⟨_, rfl, ?_⟩
              have n0_ := Aside0.mk (blk_below (g := gb124) (o := .cells #[.int .i32 ((rd_T26 l0 x7_1).f0), .int .i32 ((rd_T26 l0 x7_1).f1.f0), .int .i32 ((rd_T26 l0 x7_1).f1.f1), .int .u8 ((rd_T26 l0 x7_1).f2), .int .u8 ((rd_T26 l0 x7_1).f3.f0), .int .u8 ((rd_T26 l0 x7_1).f3.f1), .int .u8 ((rd_T26 l0 x7_1).f3.f2)] 26 (0, 0)) (by (with_reducible repeat (first | refine blk_drewN ?_ _ | refine blk_drew ?_ | refine blk_alloc ?_ _)); exact BK124.out) hb)
              have n1_ := Aside0.mk (below_step (by repeat (first | (with_reducible first | exact HB.out | apply below_alloc | apply pw_below_drewN | apply below_drew1 | refine below_set ?_ GE124.out) | exact HB.out)) hb)
              clear BK124
              clear HB
              have BK124 := n0_
              have HB := n1_
              clear n0_ n1_
              (try clear hb)
              (try clear hb2)
              (try clear hk)
              (try clear hi)
              refine hK.out _ _ ⟨(blk_cell BK124.out 0).trans rfl, (blk_cell BK124.out 1).trans rfl, (blk_cell BK124.out 2).trans rfl, (blk_cell BK124.out 3).trans rfl, (blk_cell BK124.out 4).trans rfl, (blk_cell BK124.out 5).trans rfl, (blk_cell BK124.out 6).trans rfl⟩ (fun hHeld => ?_)
              clear hK K
              refine norm_ (a' := ?_) ?_ ?_
              rotate_left
              · show Act.put _ (some 13) _ = _
                simp only [Act.put, List.setIfInBounds_toArray, List.set_cons_zero, List.set_cons_succ, i64_w, i32_w]
                rfl
              refine pure_ (i := 2) (N := some 14) (v := ?_) (a' := ?_) #[true, true, true, false, false, false, false, false, false, false, false, false, false, false, false, false, false, false, false, false, false, false, false, false] rfl rfl (any_of HT_.out (by kernel_rfl)) (fun _ _ _ h => h) (Or.inl ⟨by rfl, ?_⟩) ?_ ?_
              rotate_left
              · intro w'
                go_simp
                with_reducible rfl
              rotate_left
              · simp only [Act.put, List.setIfInBounds_toArray, List.set_cons_zero, List.set_cons_succ, i64_w, i32_w]
                rfl
              refine pure_ (i := 3) (N := some 15) (v := ?_) (a' := ?_) #[true, true, true, true, false, false, false, false, false, false, false, false, false, false, false, false, false, false, false, false, false, false, false, false] rfl rfl (any_of HT_.out (by kernel_rfl)) (fun _ _ _ h => h) (Or.inl ⟨by rfl, ?_⟩) ?_ ?_
              rotate_left
              · intro w'
                go_simp
                with_reducible rfl
              rotate_left
              · simp only [Act.put, List.setIfInBounds_toArray, List.set_cons_zero, List.set_cons_succ, i64_w, i32_w]
                rfl
              refine pure_ (i := 4) (N := some 16) (v := undef) (a' := ?_) #[true, true, true, true, true, false, false, false, false, false, false, false, false, false, false, false, false, false, false, false, false, false, false, false] rfl rfl (any_of HT_.out (by kernel_rfl)) (fun _ _ _ h => h) (Or.inr ⟨by rfl, rfl⟩) ?_ ?_
              rotate_left
              · simp only [Act.put, List.setIfInBounds_toArray, List.set_cons_zero, List.set_cons_succ, i64_w, i32_w]
                rfl
              refine pure_ (i := 5) (N := some 17) (v := undef) (a' := ?_) #[true, true, true, true, true, true, false, false, false, false, false, false, false, false, false, false, false, false, false, false, false, false, false, false] rfl rfl (any_of HT_.out (by kernel_rfl)) (fun _ _ _ h => h) (Or.inr ⟨by rfl, rfl⟩) ?_ ?_
              rotate_left
              · simp only [Act.put, List.setIfInBounds_toArray, List.set_cons_zero, List.set_cons_succ, i64_w, i32_w]
                rfl
              refine pure_ (i := 6) (N := some 18) (v := undef) (a' := ?_) #[true, true, true, true, true, true, true, false, false, false, false, false, false, false, false, false, false, false, false, false, false, false, false, false] rfl rfl (any_of HT_.out (by kernel_rfl)) (fun _ _ _ h => h) (Or.inr ⟨by rfl, rfl⟩) ?_ ?_
              rotate_left
              · simp only [Act.put, List.setIfInBounds_toArray, List.set_cons_zero, List.set_cons_succ, i64_w, i32_w]
                rfl
              refine pure_ (i := 7) (N := some 19) (v := ?_) (a' := ?_) #[true, true, true, true, true, true, true, true, false, false, false, false, false, false, false, false, false, false, false, false, false, false, false, false] rfl rfl (any_of HT_.out (by kernel_rfl)) (fun _ _ _ h => h) (Or.inl ⟨by rfl, ?_⟩) ?_ ?_
              rotate_left
              · intro w'
                go_simp
                with_reducible rfl
              rotate_left
              · simp only [Act.put, List.setIfInBounds_toArray, List.set_cons_zero, List.set_cons_succ, i64_w, i32_w]
                rfl
              refine pure_ (i := 8) (N := some 20) (v := ?_) (a' := ?_) #[true, true, true, true, true, true, true, true, true, false, false, false, false, false, false, false, false, false, false, false, false, false, false, false] rfl rfl (any_of HT_.out (by kernel_rfl)) (fun _ _ _ h => h) (Or.inl ⟨by rfl, ?_⟩) ?_ ?_
              rotate_left
              · intro w'
                go_simp
                with_reducible rfl
              rotate_left
              · simp only [Act.put, List.setIfInBounds_toArray, List.set_cons_zero, List.set_cons_succ, i64_w, i32_w]
                rfl
              refine pure_ (i := 9) (N := some 21) (v := undef) (a' := ?_) #[true, true, true, true, true, true, true, true, true, true, false, false, false, false, false, false, false, false, false, false, false, false, false, false] rfl rfl (any_of HT_.out (by kernel_rfl)) (fun _ _ _ h => h) (Or.inr ⟨by rfl, rfl⟩) ?_ ?_
              rotate_left
              · simp only [Act.put, List.setIfInBounds_toArray, List.set_cons_zero, List.set_cons_succ, i64_w, i32_w]
                rfl
              refine pure_ (i := 10) (N := some 22) (v := undef) (a' := ?_) #[true, true, true, true, true, true, true, true, true, true, true, false, false, false, false, false, false, false, false, false, false, false, false, false] rfl rfl (any_of HT_.out (by kernel_rfl)) (fun _ _ _ h => h) (Or.inr ⟨by rfl, rfl⟩) ?_ ?_
              rotate_left
              · simp only [Act.put, List.setIfInBounds_toArray, List.set_cons_zero, List.set_cons_succ, i64_w, i32_w]
                rfl
              refine pure_ (i := 11) (N := some 23) (v := undef) (a' := ?_) #[true, true, true, true, true, true, true, true, true, true, true, true, false, false, false, false, false, false, false, false, false, false, false, false] rfl rfl (any_of HT_.out (by kernel_rfl)) (fun _ _ _ h => h) (Or.inr ⟨by rfl, rfl⟩) ?_ ?_
              rotate_left
              · simp only [Act.put, List.setIfInBounds_toArray, List.set_cons_zero, List.set_cons_succ, i64_w, i32_w]
                rfl
              refine pure_ (i := 12) (N := some 24) (v := undef) (a' := ?_) #[true, true, true, true, true, true, true, true, true, true, true, true, true, false, false, false, false, false, false, false, false, false, false, false] rfl rfl (any_of HT_.out (by kernel_rfl)) (fun _ _ _ h => h) (Or.inr ⟨by rfl, rfl⟩) ?_ ?_
              rotate_left
              · simp only [Act.put, List.setIfInBounds_toArray, List.set_cons_zero, List.set_cons_succ, i64_w, i32_w]
                rfl
              refine pure_ (i := 13) (N := some 25) (v := undef) (a' := ?_) #[true, true, true, true, true, true, true, true, true, true, true, true, true, true, false, false, false, false, false, false, false, false, false, false] rfl rfl (any_of HT_.out (by kernel_rfl)) (fun _ _ _ h => h) (Or.inr ⟨by rfl, rfl⟩) ?_ ?_
              rotate_left
              · simp only [Act.put, List.setIfInBounds_toArray, List.set_cons_zero, List.set_cons_succ, i64_w, i32_w]
                rfl
              refine pure_ (i := 14) (N := some 26) (v := undef) (a' := ?_) #[true, true, true, true, true, true, true, true, true, true, true, true, true, true, true, false, false, false, false, false, false, false, false, false] rfl rfl (any_of HT_.out (by kernel_rfl)) (fun _ _ _ h => h) (Or.inr ⟨by rfl, rfl⟩) ?_ ?_
              rotate_left
              · simp only [Act.put, List.setIfInBounds_toArray, List.set_cons_zero, List.set_cons_succ, i64_w, i32_w]
                rfl
              refine pure_ (i := 15) (N := some 27) (v := undef) (a' := ?_) #[true, true, true, true, true, true, true, true, true, true, true, true, true, true, true, true, false, false, false, false, false, false, false, false] rfl rfl (any_of HT_.out (by kernel_rfl)) (fun _ _ _ h => h) (Or.inr ⟨by rfl, rfl⟩) ?_ ?_
              rotate_left
              · simp only [Act.put, List.setIfInBounds_toArray, List.set_cons_zero, List.set_cons_succ, i64_w, i32_w]
                rfl
              refine pure_ (i := 16) (N := some 28) (v := undef) (a' := ?_) #[true, true, true, true, true, true, true, true, true, true, true, true, true, true, true, true, true, false, false, false, false, false, false, false] rfl rfl (any_of HT_.out (by kernel_rfl)) (fun _ _ _ h => h) (Or.inr ⟨by rfl, rfl⟩) ?_ ?_
              rotate_left
              · simp only [Act.put, List.setIfInBounds_toArray, List.set_cons_zero, List.set_cons_succ, i64_w, i32_w]
                rfl
              refine pure_ (i := 17) (N := some 29) (v := undef) (a' := ?_) #[true, true, true, true, true, true, true, true, true, true, true, true, true, true, true, true, true, true, false, false, false, false, false, false] rfl rfl (any_of HT_.out (by kernel_rfl)) (fun _ _ _ h => h) (Or.inr ⟨by rfl, rfl⟩) ?_ ?_
              rotate_left
              · simp only [Act.put, List.setIfInBounds_toArray, List.set_cons_zero, List.set_cons_succ, i64_w, i32_w]
                rfl
              refine pure_ (i := 18) (N := some 30) (v := undef) (a' := ?_) #[true, true, true, true, true, true, true, true, true, true, true, true, true, true, true, true, true, true, true, false, false, false, false, false] rfl rfl (any_of HT_.out (by kernel_rfl)) (fun _ _ _ h => h) (Or.inr ⟨by rfl, rfl⟩) ?_ ?_
              rotate_left
              · simp only [Act.put, List.setIfInBounds_toArray, List.set_cons_zero, List.set_cons_succ, i64_w, i32_w]
                rfl
              refine pure_ (i := 19) (N := some 31) (v := undef) (a' := ?_) #[true, true, true, true, true, true, true, true, true, true, true, true, true, true, true, true, true, true, true, true, false, false, false, false] rfl rfl (any_of HT_.out (by kernel_rfl)) (fun _ _ _ h => h) (Or.inr ⟨by rfl, rfl⟩) ?_ ?_
              rotate_left
              · simp only [Act.put, List.setIfInBounds_toArray, List.set_cons_zero, List.set_cons_succ, i64_w, i32_w]
                rfl
              refine pure_ (i := 20) (N := some 32) (v := undef) (a' := ?_) #[true, true, true, true, true, true, true, true, true, true, true, true, true, true, true, true, true, true, true, true, true, false, false, false] rfl rfl (any_of HT_.out (by kernel_rfl)) (fun _ _ _ h => h) (Or.inr ⟨by rfl, rfl⟩) ?_ ?_
              rotate_left
              · simp only [Act.put, List.setIfInBounds_toArray, List.set_cons_zero, List.set_cons_succ, i64_w, i32_w]
                rfl
              refine pure_ (i := 21) (N := some 33) (v := undef) (a' := ?_) #[true, true, true, true, true, true, true, true, true, true, true, true, true, true, true, true, true, true, true, true, true, true, false, false] rfl rfl (any_of HT_.out (by kernel_rfl)) (fun _ _ _ h => h) (Or.inr ⟨by rfl, rfl⟩) ?_ ?_
              rotate_left
              · simp only [Act.put, List.setIfInBounds_toArray, List.set_cons_zero, List.set_cons_succ, i64_w, i32_w]
                rfl
              refine pure_ (i := 22) (N := some 34) (v := undef) (a' := ?_) #[true, true, true, true, true, true, true, true, true, true, true, true, true, true, true, true, true, true, true, true, true, true, true, false] rfl rfl (any_of HT_.out (by kernel_rfl)) (fun _ _ _ h => h) (Or.inr ⟨by rfl, rfl⟩) ?_ ?_
              rotate_left
              · simp only [Act.put, List.setIfInBounds_toArray, List.set_cons_zero, List.set_cons_succ, i64_w, i32_w]
                rfl
              refine pure_ (i := 23) (N := some 35) (v := ?_) (a' := ?_) #[true, true, true, true, true, true, true, true, true, true, true, true, true, true, true, true, true, true, true, true, true, true, true, true] rfl rfl (any_of HT_.out (by kernel_rfl)) (fun _ _ _ h => h) (Or.inl ⟨by rfl, ?_⟩) ?_ ?_
              rotate_left
              · intro w'
                go_simp
                with_reducible rfl
              rotate_left
              · simp only [Act.put, List.setIfInBounds_toArray, List.set_cons_zero, List.set_cons_succ, i64_w, i32_w]
                rfl
              refine done_ (done_of HT_.out (by kernel_rfl)) ?_
              try go_wp2
              go_ret
              exact ⟨by first | rfl | (simp [errW_none, errW_some] <;> rfl) | (simp [*, errW_none, errW_some] <;> rfl), by repeat (first | (with_reducible first | exact HB.out | apply below_alloc | apply pw_below_drewN | apply below_drew1 | refine below_set ?_ GE124.out) | exact HB.out)⟩
          · rw [if_neg c4] at H
            exact absurd H (by simp)
        · rw [if_neg c3] at H
          exact absurd H (by simp)
      · rw [if_neg c2] at H
        have c2b0 : decide (x7_1 < (l0.length : Int)) = false := decide_eq_false c2
        clear c2
        obtain rfl := Option.some.inj H
        go_wp2
        go_ret
        exact ⟨by first | rfl | (simp [errW_none, errW_some] <;> rfl) | (simp [*, errW_none, errW_some] <;> rfl), by repeat (first | (with_reducible first | exact HB.out | apply below_alloc | apply pw_below_drewN | apply below_drew1) | exact HB.out)⟩

end Go.Proofs.Ytblcmcdifgclcaa.PLineTwice
