/- What the law LineAsks reaches: each function with its contract. -/
import Derived.Test.YtblcmcdifgclcaaPLineAsksx0
import Derived.Test.YtblcmcdifgclcaaPLineAsksx4
namespace Go.Proofs.Ytblcmcdifgclcaa.PLineAsks
open Go.RowKit Go.Proofs.YtblcmcdifgclcaaW.PrintWords Go.Proofs.YtblcmcdifgclcaaW.PrintLast Go.Proofs.YtblcmcdifgclcaaW.PrintMore
attribute [local go_sem] max2_int min2_int max_two min_two max_three min_three max_four min_four   -- for this text's walks alone
set_option linter.unusedVariables false
set_option linter.unusedSimpArgs false

/-! ### line_Put: function 37 -/
def line_Put.j0 : Nat → List (S26) → Int → Bool → Int → Int → Int → Int → Int → Int → Int → Option ((List (S26)) × Bool)
  | 0, _, _, _, _, _, _, _, _, _, _ => none
  | k + 1, x0, x1, x35, x144000, x144001, x144002, x144003, x144004, x144005, x144006 => if x35 = true then ((cell_Cell_95.f x0).bind fun t145 => (some (t145, false))) else (if x144003 = 2 then ((cell_Rest.f x144000 x144001 x144002 x144003 x144004 x144005 x144006).bind fun bt148 => ((line_laid.f x0 x1 (([(⟨x144000, (⟨x144001, x144002⟩ : S22), x144003, (⟨x144004, x144005, x144006⟩ : S24)⟩ : S26), (⟨bt148.1, (⟨bt148.2.1, bt148.2.2.1⟩ : S22), bt148.2.2.2.1, (⟨bt148.2.2.2.2.1, bt148.2.2.2.2.2.1, bt148.2.2.2.2.2.2⟩ : S24)⟩ : S26)] : List (S26)))).bind fun t158 => (some (t158, true)))) else ((line_laid.f x0 x1 (([(⟨x144000, (⟨x144001, x144002⟩ : S22), x144003, (⟨x144004, x144005, x144006⟩ : S24)⟩ : S26)] : List (S26)))).bind fun t164 => (some (t164, true))))
def line_Put.f (k : Nat) (l0 : List (S26)) (a1 : Int) (a2_0 : Int) (a2_1 : Int) (a2_2 : Int) (a2_3 : Int) (a2_4 : Int) (a2_5 : Int) (a2_6 : Int) : Option ((List (S26)) × Bool) := if a2_3 = 0 then (line_Put.j0 k l0 a1 true a2_0 a2_1 a2_2 a2_3 a2_4 a2_5 a2_6) else ((cell_Right.f a2_0 a2_1 a2_2 a2_3 a2_4 a2_5 a2_6).bind fun t144 => (if t144 = true then (if a1 < 0 then (line_Put.j0 k l0 a1 true a2_0 a2_1 a2_2 a2_3 a2_4 a2_5 a2_6) else (if a1 ≥ (l0.length : Int) then (line_Put.j0 k l0 a1 true a2_0 a2_1 a2_2 a2_3 a2_4 a2_5 a2_6) else (line_Put.j0 k l0 a1 (decide ((wrap64 ((l0.length : Int) - a1)) < (wrap64 (a2_3)))) a2_0 a2_1 a2_2 a2_3 a2_4 a2_5 a2_6))) else (line_Put.j0 k l0 a1 true a2_0 a2_1 a2_2 a2_3 a2_4 a2_5 a2_6)))
def line_Put.T4 : Bool × List (List Nat × List Nat) := (true, [([], []), ([], []), ([], []), ([], []), ([3], [3]), ([2, 4], [2, 4]), ([0, 1, 5, 4], [0, 1, 5]), ([6, 6, 0, 1, 2, 3, 4, 5, 6], [6]), ([7, 0, 1, 2, 3, 4, 5, 6, 7], [])])
def line_Put.B4 : List Nat := [0, 0, 0, 0, 8, 28, 63, 127, 255]
theorem line_Put.tab4 : rtab .any (opsOf Try.f37 4) = line_Put.T4 := by kernel_rfl
theorem line_Put.bits4 : waitsOk line_Put.T4.2 line_Put.B4 = true := by kernel_rfl
set_option maxHeartbeats 8000000 in
set_option maxRecDepth 100000 in
theorem line_Put.calls (k : Nat) (A0 : Option Addr) (c0 : Nat) (l0 : List (S26)) (a1 : Int) (a2_0 : Int) (a2_1 : Int) (a2_2 : Int) (a2_3 : Int) (a2_4 : Int) (a2_5 : Int) (a2_6 : Int) (r1 : List (S26)) (r2 : Bool) (w : World) (hr0 : Kd.C k26 w A0 l0.length l0) (hc0 : l0.length ≤ c0) (h : line_Put.f k l0 a1 a2_0 a2_1 a2_2 a2_3 a2_4 a2_5 a2_6 = some (r1, r2)) :
    Calls Try.prog 37 #[.slice A0 l0.length c0, .int .i64 a1, .agg #[.int .i32 a2_0, .int .i32 a2_1, .int .i32 a2_2, .int .u8 a2_3, .int .u8 a2_4, .int .u8 a2_5, .int .u8 a2_6]] w fun e w' => ∃ v0_ : Value, e = .returned (.tuple #[v0_, .bool r2]) ∧ Kd.R k26 26 w' w.heap.size (fun _ => True) v0_ r1 ∧ Below w.heap.size w w' := by
  have hu26 := Try.underlying26
  have HR0 := Aside0.mk hr0
  have HC0 := Aside0.mk hc0
  clear hr0 hc0
  have HB := Aside0.mk (Below.refl w.heap.size w)
  have H : (if a2_3 = 0 then (line_Put.j0 k l0 a1 true a2_0 a2_1 a2_2 a2_3 a2_4 a2_5 a2_6) else ((cell_Right.f a2_0 a2_1 a2_2 a2_3 a2_4 a2_5 a2_6).bind fun t144 => (if t144 = true then (if a1 < 0 then (line_Put.j0 k l0 a1 true a2_0 a2_1 a2_2 a2_3 a2_4 a2_5 a2_6) else (if a1 ≥ (l0.length : Int) then (line_Put.j0 k l0 a1 true a2_0 a2_1 a2_2 a2_3 a2_4 a2_5 a2_6) else (line_Put.j0 k l0 a1 (decide ((wrap64 ((l0.length : Int) - a1)) < (wrap64 (a2_3)))) a2_0 a2_1 a2_2 a2_3 a2_4 a2_5 a2_6))) else (line_Put.j0 k l0 a1 true a2_0 a2_1 a2_2 a2_3 a2_4 a2_5 a2_6)))) = some (r1, r2) := h
  clear h
  have HC4 := Aside0.mk H
  clear H
  go_enter Try.func37, Try.ntmps37
  go_upto_region 1 with (first | ((with_reducible refine gate_dst (N := 5) rfl ?_); (try (refine gate_guard (by rfl) ?_; dsimp only)); refine box_event ?hg (N := 5) ?hd (cs := #[.int .i32 a2_0, .int .i32 a2_1, .int .i32 a2_2, .int .u8 a2_3, .int .u8 a2_4, .int .u8 a2_5, .int .u8 a2_6]) (t := 26) ?hr ?_; (case hd => rfl); (case hg => rfl); (case hr => first | (go_simp; done) | (go_simp; rfl)); intro gb143 hg w5 hbox hb; have n0_ := Aside0.mk (below_step (by repeat (first | (with_reducible first | exact HB.out | apply below_alloc | apply pw_below_drewN | apply below_drew1) | exact HB.out)) hb); have n1_ := Aside0.mk (hbox); have n2_ := Aside0.mk ((by rw [hg]; exact (below_size (by repeat (first | (with_reducible first | exact HB.out | apply below_alloc | apply pw_below_drewN | apply below_drew1) | exact HB.out))) : w.heap.size ≤ gb143)); have n3_ := Aside0.mk ((by rw [hg]; exact (below_size (by repeat (first | (with_reducible first | exact HB.out | apply below_alloc | apply pw_below_drewN | apply below_drew1) | exact HB.out))) : w.heap.size ≤ gb143)); clear HB; have HB := n0_; have BK143 := n1_; have GW143 := n2_; have GE143 := n3_; clear n0_ n1_ n2_ n3_; clear hb hbox hg))
  (try simp only [Act.put, List.setIfInBounds_toArray, List.set_cons_zero, List.set_cons_succ])
  go_cut [35] (fun v35 wc => ∃ (kq : Nat) (x35_3 : Bool), v35 = .bool x35_3 ∧ Aside0 (line_Put.j0 kq l0 a1 x35_3 a2_0 a2_1 a2_2 a2_3 a2_4 a2_5 a2_6 = some (r1, r2)) ∧ Aside0 (kq ≤ k) ∧ Aside0 (wc.heap[gb143]? = some (.cells #[.int .i32 a2_0, .int .i32 a2_1, .int .i32 a2_2, .int .u8 a2_3, .int .u8 a2_4, .int .u8 a2_5, .int .u8 a2_6] 26 (0, 0))) ∧ Aside0 (Below w.heap.size w wc))
  case first =>
    have H := HC4.out
    clear HC4
    by_cases c6 : a2_3 = 0
    · rw [if_pos c6] at H
      have c6b0 : (a2_3 == 0) = true := beq_iff_eq.mpr c6
      have c6b1 : (a2_3 != 0) = false := bne_eq_false_iff_eq.mpr c6
      clear c6
      (first | rw [c6b0] | (simp only [i64_w, i32_w]; rw [c6b0]) | skip)
      have H' := Aside0.mk H
      clear H
      have hcz7_0 : w5.cell? ⟨gb143, 0, none⟩ = some (.int .i32 a2_0) := (blk_cell BK143.out 0).trans rfl
      have hcz7_1 : w5.cell? ⟨gb143, 1, none⟩ = some (.int .i32 a2_1) := (blk_cell BK143.out 1).trans rfl
      have hcz7_2 : w5.cell? ⟨gb143, 2, none⟩ = some (.int .i32 a2_2) := (blk_cell BK143.out 2).trans rfl
      have hcz7_3 : w5.cell? ⟨gb143, 3, none⟩ = some (.int .u8 a2_3) := (blk_cell BK143.out 3).trans rfl
      have hcz7_4 : w5.cell? ⟨gb143, 4, none⟩ = some (.int .u8 a2_4) := (blk_cell BK143.out 4).trans rfl
      have hcz7_5 : w5.cell? ⟨gb143, 5, none⟩ = some (.int .u8 a2_5) := (blk_cell BK143.out 5).trans rfl
      have hcz7_6 : w5.cell? ⟨gb143, 6, none⟩ = some (.int .u8 a2_6) := (blk_cell BK143.out 6).trans rfl
      have hfz7_0 := blk_frozen BK143.out 0
      have hfz7_1 := blk_frozen BK143.out 1
      have hfz7_2 := blk_frozen BK143.out 2
      have hfz7_3 := blk_frozen BK143.out 3
      have hfz7_4 := blk_frozen BK143.out 4
      have hfz7_5 := blk_frozen BK143.out 5
      have hfz7_6 := blk_frozen BK143.out 6
      go_wp2
      go_meet
      case rel => exact ⟨_, (true), (by first | rfl | (simp; done) | (simp [*]; done)), H', ⟨by first | omega | exact Nat.le_refl _⟩, ⟨by (with_reducible repeat (first | refine blk_drewN ?_ _ | refine blk_drew ?_ | refine blk_alloc ?_ _)); exact BK143.out⟩, ⟨by repeat (first | (with_reducible first | exact HB.out | apply below_alloc | apply pw_below_drewN | apply below_drew1 | refine below_set ?_ GE143.out) | exact HB.out)⟩⟩
    · rw [if_neg c6] at H
      have c6b0 : (a2_3 == 0) = false := beq_eq_false_iff_ne.mpr c6
      have c6b1 : (a2_3 != 0) = true := bne_iff_ne.mpr c6
      (first | rw [c6b0] | (simp only [i64_w, i32_w]; rw [c6b0]) | skip)
      replace H := Option.bind_eq_some_iff.mp H
      obtain ⟨t144, A80, H⟩ := H
      replace H : (if t144 = true then (if a1 < 0 then (line_Put.j0 k l0 a1 true a2_0 a2_1 a2_2 a2_3 a2_4 a2_5 a2_6) else (if a1 ≥ (l0.length : Int) then (line_Put.j0 k l0 a1 true a2_0 a2_1 a2_2 a2_3 a2_4 a2_5 a2_6) else (line_Put.j0 k l0 a1 (decide ((wrap64 ((l0.length : Int) - a1)) < (wrap64 (a2_3)))) a2_0 a2_1 a2_2 a2_3 a2_4 a2_5 a2_6))) else (line_Put.j0 k l0 a1 true a2_0 a2_1 a2_2 a2_3 a2_4 a2_5 a2_6)) = some (r1, r2) := H
      have A8 := Aside0.mk A80
      clear A80
      by_cases c9 : t144 = true
      · subst c9
        have H1 : (if a1 < 0 then (line_Put.j0 k l0 a1 true a2_0 a2_1 a2_2 a2_3 a2_4 a2_5 a2_6) else (if a1 ≥ (l0.length : Int) then (line_Put.j0 k l0 a1 true a2_0 a2_1 a2_2 a2_3 a2_4 a2_5 a2_6) else (line_Put.j0 k l0 a1 (decide ((wrap64 ((l0.length : Int) - a1)) < (wrap64 (a2_3)))) a2_0 a2_1 a2_2 a2_3 a2_4 a2_5 a2_6))) = some (r1, r2) := by rw [if_pos rfl] at H; exact H
        clear H
        have H := H1
        clear H1
        by_cases c10 : a1 < 0
        · rw [if_pos c10] at H
          have c10b0 : decide (a1 < 0) = true := decide_eq_true c10
          clear c10
          have H' := Aside0.mk H
          clear H
          have hcz11_0 : w5.cell? ⟨gb143, 0, none⟩ = some (.int .i32 a2_0) := (blk_cell BK143.out 0).trans rfl
          have hcz11_1 : w5.cell? ⟨gb143, 1, none⟩ = some (.int .i32 a2_1) := (blk_cell BK143.out 1).trans rfl
          have hcz11_2 : w5.cell? ⟨gb143, 2, none⟩ = some (.int .i32 a2_2) := (blk_cell BK143.out 2).trans rfl
          have hcz11_3 : w5.cell? ⟨gb143, 3, none⟩ = some (.int .u8 a2_3) := (blk_cell BK143.out 3).trans rfl
          have hcz11_4 : w5.cell? ⟨gb143, 4, none⟩ = some (.int .u8 a2_4) := (blk_cell BK143.out 4).trans rfl
          have hcz11_5 : w5.cell? ⟨gb143, 5, none⟩ = some (.int .u8 a2_5) := (blk_cell BK143.out 5).trans rfl
          have hcz11_6 : w5.cell? ⟨gb143, 6, none⟩ = some (.int .u8 a2_6) := (blk_cell BK143.out 6).trans rfl
          have hfz11_0 := blk_frozen BK143.out 0
          have hfz11_1 := blk_frozen BK143.out 1
          have hfz11_2 := blk_frozen BK143.out 2
          have hfz11_3 := blk_frozen BK143.out 3
          have hfz11_4 := blk_frozen BK143.out 4
          have hfz11_5 := blk_frozen BK143.out 5
          have hfz11_6 := blk_frozen BK143.out 6
          go_wp2_with (first | (go_at_call 26; (with_reducible refine (cell_Right.calls a2_0 a2_1 a2_2 a2_3 a2_4 a2_5 a2_6 true _ A8.out).mono ?_); rintro e w12 ⟨rfl, hb⟩; have n0_ := Aside0.mk (blk_below (g := gb143) (o := .cells #[.int .i32 a2_0, .int .i32 a2_1, .int .i32 a2_2, .int .u8 a2_3, .int .u8 a2_4, .int .u8 a2_5, .int .u8 a2_6] 26 (0, 0)) (by (with_reducible repeat (first | refine blk_drewN ?_ _ | refine blk_drew ?_ | refine blk_alloc ?_ _)); exact BK143.out) hb); have n1_ := Aside0.mk (below_step (by repeat (first | (with_reducible first | exact HB.out | apply below_alloc | apply pw_below_drewN | apply below_drew1 | refine below_set ?_ GE143.out) | exact HB.out)) hb); clear BK143; clear HB; have BK143 := n0_; have HB := n1_; clear n0_ n1_; (try clear hb); (try clear hb2); (try clear hk); (try clear hi)))
          go_meet
          case rel => exact ⟨_, (true), (by first | rfl | (simp; done) | (simp [*]; done)), H', ⟨by first | omega | exact Nat.le_refl _⟩, ⟨by (with_reducible repeat (first | refine blk_drewN ?_ _ | refine blk_drew ?_ | refine blk_alloc ?_ _)); exact BK143.out⟩, ⟨by repeat (first | (with_reducible first | exact HB.out | apply below_alloc | apply pw_below_drewN | apply below_drew1 | refine below_set ?_ GE143.out) | exact HB.out)⟩⟩
        · rw [if_neg c10] at H
          have c10b0 : decide (a1 < 0) = false := decide_eq_false c10
          clear c10
          by_cases c13 : a1 ≥ (l0.length : Int)
          · rw [if_pos c13] at H
            have c13b0 : decide ((l0.length : Int) ≤ a1) = true := decide_eq_true c13
            clear c13
            have H' := Aside0.mk H
            clear H
            have hcz14_0 : w5.cell? ⟨gb143, 0, none⟩ = some (.int .i32 a2_0) := (blk_cell BK143.out 0).trans rfl
            have hcz14_1 : w5.cell? ⟨gb143, 1, none⟩ = some (.int .i32 a2_1) := (blk_cell BK143.out 1).trans rfl
            have hcz14_2 : w5.cell? ⟨gb143, 2, none⟩ = some (.int .i32 a2_2) := (blk_cell BK143.out 2).trans rfl
            have hcz14_3 : w5.cell? ⟨gb143, 3, none⟩ = some (.int .u8 a2_3) := (blk_cell BK143.out 3).trans rfl
            have hcz14_4 : w5.cell? ⟨gb143, 4, none⟩ = some (.int .u8 a2_4) := (blk_cell BK143.out 4).trans rfl
            have hcz14_5 : w5.cell? ⟨gb143, 5, none⟩ = some (.int .u8 a2_5) := (blk_cell BK143.out 5).trans rfl
            have hcz14_6 : w5.cell? ⟨gb143, 6, none⟩ = some (.int .u8 a2_6) := (blk_cell BK143.out 6).trans rfl
            have hfz14_0 := blk_frozen BK143.out 0
            have hfz14_1 := blk_frozen BK143.out 1
            have hfz14_2 := blk_frozen BK143.out 2
            have hfz14_3 := blk_frozen BK143.out 3
            have hfz14_4 := blk_frozen BK143.out 4
            have hfz14_5 := blk_frozen BK143.out 5
            have hfz14_6 := blk_frozen BK143.out 6
            go_wp2_with (first | (go_at_call 26; (with_reducible refine (cell_Right.calls a2_0 a2_1 a2_2 a2_3 a2_4 a2_5 a2_6 true _ A8.out).mono ?_); rintro e w15 ⟨rfl, hb⟩; have n0_ := Aside0.mk (blk_below (g := gb143) (o := .cells #[.int .i32 a2_0, .int .i32 a2_1, .int .i32 a2_2, .int .u8 a2_3, .int .u8 a2_4, .int .u8 a2_5, .int .u8 a2_6] 26 (0, 0)) (by (with_reducible repeat (first | refine blk_drewN ?_ _ | refine blk_drew ?_ | refine blk_alloc ?_ _)); exact BK143.out) hb); have n1_ := Aside0.mk (below_step (by repeat (first | (with_reducible first | exact HB.out | apply below_alloc | apply pw_below_drewN | apply below_drew1 | refine below_set ?_ GE143.out) | exact HB.out)) hb); clear BK143; clear HB; have BK143 := n0_; have HB := n1_; clear n0_ n1_; (try clear hb); (try clear hb2); (try clear hk); (try clear hi)))
            go_meet
            case rel => exact ⟨_, (true), (by first | rfl | (simp; done) | (simp [*]; done)), H', ⟨by first | omega | exact Nat.le_refl _⟩, ⟨by (with_reducible repeat (first | refine blk_drewN ?_ _ | refine blk_drew ?_ | refine blk_alloc ?_ _)); exact BK143.out⟩, ⟨by repeat (first | (with_reducible first | exact HB.out | apply below_alloc | apply pw_below_drewN | apply below_drew1 | refine below_set ?_ GE143.out) | exact HB.out)⟩⟩
          · rw [if_neg c13] at H
            have c13b0 : decide ((l0.length : Int) ≤ a1) = false := decide_eq_false c13
            clear c13
            have H' := Aside0.mk H
            clear H
            have hcz16_0 : w5.cell? ⟨gb143, 0, none⟩ = some (.int .i32 a2_0) := (blk_cell BK143.out 0).trans rfl
            have hcz16_1 : w5.cell? ⟨gb143, 1, none⟩ = some (.int .i32 a2_1) := (blk_cell BK143.out 1).trans rfl
            have hcz16_2 : w5.cell? ⟨gb143, 2, none⟩ = some (.int .i32 a2_2) := (blk_cell BK143.out 2).trans rfl
            have hcz16_3 : w5.cell? ⟨gb143, 3, none⟩ = some (.int .u8 a2_3) := (blk_cell BK143.out 3).trans rfl
            have hcz16_4 : w5.cell? ⟨gb143, 4, none⟩ = some (.int .u8 a2_4) := (blk_cell BK143.out 4).trans rfl
            have hcz16_5 : w5.cell? ⟨gb143, 5, none⟩ = some (.int .u8 a2_5) := (blk_cell BK143.out 5).trans rfl
            have hcz16_6 : w5.cell? ⟨gb143, 6, none⟩ = some (.int .u8 a2_6) := (blk_cell BK143.out 6).trans rfl
            have hfz16_0 := blk_frozen BK143.out 0
            have hfz16_1 := blk_frozen BK143.out 1
            have hfz16_2 := blk_frozen BK143.out 2
            have hfz16_3 := blk_frozen BK143.out 3
            have hfz16_4 := blk_frozen BK143.out 4
            have hfz16_5 := blk_frozen BK143.out 5
            have hfz16_6 := blk_frozen BK143.out 6
            go_wp2_with (first | (go_at_call 26; (with_reducible refine (cell_Right.calls a2_0 a2_1 a2_2 a2_3 a2_4 a2_5 a2_6 true _ A8.out).mono ?_); rintro e w17 ⟨rfl, hb⟩; have n0_ := Aside0.mk (blk_below (g := gb143) (o := .cells #[.int .i32 a2_0, .int .i32 a2_1, .int .i32 a2_2, .int .u8 a2_3, .int .u8 a2_4, .int .u8 a2_5, .int .u8 a2_6] 26 (0, 0)) (by (with_reducible repeat (first | refine blk_drewN ?_ _ | refine blk_drew ?_ | refine blk_alloc ?_ _)); exact BK143.out) hb); have n1_ := Aside0.mk (below_step (by repeat (first | (with_reducible first | exact HB.out | apply below_alloc | apply pw_below_drewN | apply below_drew1 | refine below_set ?_ GE143.out) | exact HB.out)) hb); clear BK143; clear HB; have BK143 := n0_; have HB := n1_; clear n0_ n1_; (try clear hb); (try clear hb2); (try clear hk); (try clear hi); have hcz18_0 : w17.cell? ⟨gb143, 0, none⟩ = some (.int .i32 a2_0) := (blk_cell BK143.out 0).trans rfl; have hcz18_1 : w17.cell? ⟨gb143, 1, none⟩ = some (.int .i32 a2_1) := (blk_cell BK143.out 1).trans rfl; have hcz18_2 : w17.cell? ⟨gb143, 2, none⟩ = some (.int .i32 a2_2) := (blk_cell BK143.out 2).trans rfl; have hcz18_3 : w17.cell? ⟨gb143, 3, none⟩ = some (.int .u8 a2_3) := (blk_cell BK143.out 3).trans rfl; have hcz18_4 : w17.cell? ⟨gb143, 4, none⟩ = some (.int .u8 a2_4) := (blk_cell BK143.out 4).trans rfl; have hcz18_5 : w17.cell? ⟨gb143, 5, none⟩ = some (.int .u8 a2_5) := (blk_cell BK143.out 5).trans rfl; have hcz18_6 : w17.cell? ⟨gb143, 6, none⟩ = some (.int .u8 a2_6) := (blk_cell BK143.out 6).trans rfl; have hfz18_0 := blk_frozen BK143.out 0; have hfz18_1 := blk_frozen BK143.out 1; have hfz18_2 := blk_frozen BK143.out 2; have hfz18_3 := blk_frozen BK143.out 3; have hfz18_4 := blk_frozen BK143.out 4; have hfz18_5 := blk_frozen BK143.out 5; have hfz18_6 := blk_frozen BK143.out 6))
            go_meet
            case rel => exact ⟨_, (decide ((wrap64 ((l0.length : Int) - a1)) < (wrap64 (a2_3)))), (by first | rfl | (simp; done) | (simp [*]; done)), H', ⟨by first | omega | exact Nat.le_refl _⟩, ⟨by (with_reducible repeat (first | refine blk_drewN ?_ _ | refine blk_drew ?_ | refine blk_alloc ?_ _)); exact BK143.out⟩, ⟨by repeat (first | (with_reducible first | exact HB.out | apply below_alloc | apply pw_below_drewN | apply below_drew1 | refine below_set ?_ GE143.out) | exact HB.out)⟩⟩
      · replace c9 := Bool.eq_false_iff.mpr c9
        subst c9
        have H1 : (line_Put.j0 k l0 a1 true a2_0 a2_1 a2_2 a2_3 a2_4 a2_5 a2_6) = some (r1, r2) := by rw [if_neg (show ¬ (false = true) by decide)] at H; exact H
        clear H
        have H := H1
        clear H1
        have H' := Aside0.mk H
        clear H
        have hcz19_0 : w5.cell? ⟨gb143, 0, none⟩ = some (.int .i32 a2_0) := (blk_cell BK143.out 0).trans rfl
        have hcz19_1 : w5.cell? ⟨gb143, 1, none⟩ = some (.int .i32 a2_1) := (blk_cell BK143.out 1).trans rfl
        have hcz19_2 : w5.cell? ⟨gb143, 2, none⟩ = some (.int .i32 a2_2) := (blk_cell BK143.out 2).trans rfl
        have hcz19_3 : w5.cell? ⟨gb143, 3, none⟩ = some (.int .u8 a2_3) := (blk_cell BK143.out 3).trans rfl
        have hcz19_4 : w5.cell? ⟨gb143, 4, none⟩ = some (.int .u8 a2_4) := (blk_cell BK143.out 4).trans rfl
        have hcz19_5 : w5.cell? ⟨gb143, 5, none⟩ = some (.int .u8 a2_5) := (blk_cell BK143.out 5).trans rfl
        have hcz19_6 : w5.cell? ⟨gb143, 6, none⟩ = some (.int .u8 a2_6) := (blk_cell BK143.out 6).trans rfl
        have hfz19_0 := blk_frozen BK143.out 0
        have hfz19_1 := blk_frozen BK143.out 1
        have hfz19_2 := blk_frozen BK143.out 2
        have hfz19_3 := blk_frozen BK143.out 3
        have hfz19_4 := blk_frozen BK143.out 4
        have hfz19_5 := blk_frozen BK143.out 5
        have hfz19_6 := blk_frozen BK143.out 6
        go_wp2_with (first | (go_at_call 26; (with_reducible refine (cell_Right.calls a2_0 a2_1 a2_2 a2_3 a2_4 a2_5 a2_6 false _ A8.out).mono ?_); rintro e w20 ⟨rfl, hb⟩; have n0_ := Aside0.mk (blk_below (g := gb143) (o := .cells #[.int .i32 a2_0, .int .i32 a2_1, .int .i32 a2_2, .int .u8 a2_3, .int .u8 a2_4, .int .u8 a2_5, .int .u8 a2_6] 26 (0, 0)) (by (with_reducible repeat (first | refine blk_drewN ?_ _ | refine blk_drew ?_ | refine blk_alloc ?_ _)); exact BK143.out) hb); have n1_ := Aside0.mk (below_step (by repeat (first | (with_reducible first | exact HB.out | apply below_alloc | apply pw_below_drewN | apply below_drew1 | refine below_set ?_ GE143.out) | exact HB.out)) hb); clear BK143; clear HB; have BK143 := n0_; have HB := n1_; clear n0_ n1_; (try clear hb); (try clear hb2); (try clear hk); (try clear hi)))
        go_meet
        case rel => exact ⟨_, (true), (by first | rfl | (simp; done) | (simp [*]; done)), H', ⟨by first | omega | exact Nat.le_refl _⟩, ⟨by (with_reducible repeat (first | refine blk_drewN ?_ _ | refine blk_drew ?_ | refine blk_alloc ?_ _)); exact BK143.out⟩, ⟨by repeat (first | (with_reducible first | exact HB.out | apply below_alloc | apply pw_below_drewN | apply below_drew1 | refine below_set ?_ GE143.out) | exact HB.out)⟩⟩
  case rest =>
    clear HC4
    try clear c1
    try clear p2
    try clear c3
    try clear c6
    try clear c6b0
    try clear c6b1
    try clear p6
    try clear c9
    try clear c10
    try clear c10b0
    try clear c13
    try clear c13b0
    try clear hcz11_0
    try clear hcz11_1
    try clear hcz11_2
    try clear hcz11_3
    try clear hcz11_4
    try clear hcz11_5
    try clear hcz11_6
    try clear hcz14_0
    try clear hcz14_1
    try clear hcz14_2
    try clear hcz14_3
    try clear hcz14_4
    try clear hcz14_5
    try clear hcz14_6
    try clear hcz16_0
    try clear hcz16_1
    try clear hcz16_2
    try clear hcz16_3
    try clear hcz16_4
    try clear hcz16_5
    try clear hcz16_6
    try clear hcz18_0
    try clear hcz18_1
    try clear hcz18_2
    try clear hcz18_3
    try clear hcz18_4
    try clear hcz18_5
    try clear hcz18_6
    try clear hcz19_0
    try clear hcz19_1
    try clear hcz19_2
    try clear hcz19_3
    try clear hcz19_4
    try clear hcz19_5
    try clear hcz19_6
    try clear hcz7_0
    try clear hcz7_1
    try clear hcz7_2
    try clear hcz7_3
    try clear hcz7_4
    try clear hcz7_5
    try clear hcz7_6
    try clear hfz11_0
    try clear hfz11_1
    try clear hfz11_2
    try clear hfz11_3
    try clear hfz11_4
    try clear hfz11_5
    try clear hfz11_6
    try clear hfz14_0
    try clear hfz14_1
    try clear hfz14_2
    try clear hfz14_3
    try clear hfz14_4
    try clear hfz14_5
    try clear hfz14_6
    try clear hfz16_0
    try clear hfz16_1
    try clear hfz16_2
    try clear hfz16_3
    try clear hfz16_4
    try clear hfz16_5
    try clear hfz16_6
    try clear hfz18_0
    try clear hfz18_1
    try clear hfz18_2
    try clear hfz18_3
    try clear hfz18_4
    try clear hfz18_5
    try clear hfz18_6
    try clear hfz19_0
    try clear hfz19_1
    try clear hfz19_2
    try clear hfz19_3
    try clear hfz19_4
    try clear hfz19_5
    try clear hfz19_6
    try clear hfz7_0
    try clear hfz7_1
    try clear hfz7_2
    try clear hfz7_3
    try clear hfz7_4
    try clear hfz7_5
    try clear hfz7_6
    obtain ⟨kq, x35_3, rfl, HA, HJ3, BK143, HB⟩ := hcut
    cases kq with
    | zero => exact absurd HA.out (by simp [line_Put.j0])
    | succ kj3 =>
      have H := HA.out
      clear HA
      simp only [line_Put.j0] at H
      by_cases c21 : x35_3 = true
      · subst c21
        have H1 : ((cell_Cell_95.f l0).bind fun t145 => (some (t145, false))) = some (r1, r2) := by rw [if_pos rfl] at H; exact H
        clear H
        have H := H1
        clear H1
        replace H := Option.bind_eq_some_iff.mp H
        obtain ⟨t145, A220, H⟩ := H
        replace H : (some (t145, false)) = some (r1, r2) := H
        have A22 := Aside0.mk A220
        clear A220
        simp only [Option.some.injEq, Prod.mk.injEq] at H
        obtain ⟨rfl, rfl⟩ := H
        go_wp2_with (first | ((with_reducible refine gate_callee (f := 95) rfl ?_); refine goesL_ (some 37) rfl rfl Try.func95 (by kernel_rfl) rfl #[.slice A0 l0.length c0] rfl (by (try simp only [List.map_toArray, List.map_cons, List.map_nil]); first | done | rfl | (simp only [List.length_drop, List.length_take]; rfl)) ?_; (with_reducible refine (cell_Cell_95.calls _ _ l0 t145 _ ?side1 ?side2 A22.out).mono ?_); (case side1 => repeat (first | exact (Kd.C_below HR0.out HB.out) | (with_reducible refine Kd.C_alloc ?_ _) | (with_reducible refine Kd.C_drewN ?_ _) | (with_reducible refine Kd.C_drew ?_))); (case side2 => exact HC0.out); rintro e w23 ⟨v146, rfl, ho0, hb⟩; refine ⟨_, rfl, ?_⟩; have n0_ := Aside0.mk (Kd.R_lower (Kd.R_newB ho0 (g := gb143) (o := .cells #[.int .i32 a2_0, .int .i32 a2_1, .int .i32 a2_2, .int .u8 a2_3, .int .u8 a2_4, .int .u8 a2_5, .int .u8 a2_6] 26 (0, 0)) (by (with_reducible repeat (first | refine blk_drewN ?_ _ | refine blk_drew ?_ | refine blk_alloc ?_ _)); exact BK143.out)) (below_size (by repeat (first | (with_reducible first | exact HB.out | apply below_alloc | apply pw_below_drewN | apply below_drew1 | refine below_set ?_ GE143.out) | exact HB.out)))); have n1_ := Aside0.mk (blk_below (g := gb143) (o := .cells #[.int .i32 a2_0, .int .i32 a2_1, .int .i32 a2_2, .int .u8 a2_3, .int .u8 a2_4, .int .u8 a2_5, .int .u8 a2_6] 26 (0, 0)) (by (with_reducible repeat (first | refine blk_drewN ?_ _ | refine blk_drew ?_ | refine blk_alloc ?_ _)); exact BK143.out) hb); have n2_ := Aside0.mk (below_step (by repeat (first | (with_reducible first | exact HB.out | apply below_alloc | apply pw_below_drewN | apply below_drew1 | refine below_set ?_ GE143.out) | exact HB.out)) hb); clear BK143; clear HB; have HO147 := n0_; have BK143 := n1_; have HB := n2_; clear n0_ n1_ n2_; (try clear hb); (try clear hb2); (try clear hk); (try clear hi); (try clear ho0)))
        go_ret2
        exact ⟨_, by first | rfl | (simp <;> rfl) | (simp [*] <;> rfl), by (with_reducible repeat (first | apply Kd.R_alloc | apply Kd.R_drewN | apply Kd.R_drew)); exact Kd.R_mono HO147.out (fun _ hk => trivial), by repeat (first | (with_reducible first | exact HB.out | apply below_alloc | apply pw_below_drewN | apply below_drew1 | refine below_set ?_ GE143.out) | exact HB.out)⟩
      · replace c21 := Bool.eq_false_iff.mpr c21
        subst c21
        have H1 : (if a2_3 = 2 then ((cell_Rest.f a2_0 a2_1 a2_2 a2_3 a2_4 a2_5 a2_6).bind fun bt148 => ((line_laid.f l0 a1 (([(⟨a2_0, (⟨a2_1, a2_2⟩ : S22), a2_3, (⟨a2_4, a2_5, a2_6⟩ : S24)⟩ : S26), (⟨bt148.1, (⟨bt148.2.1, bt148.2.2.1⟩ : S22), bt148.2.2.2.1, (⟨bt148.2.2.2.2.1, bt148.2.2.2.2.2.1, bt148.2.2.2.2.2.2⟩ : S24)⟩ : S26)] : List (S26)))).bind fun t158 => (some (t158, true)))) else ((line_laid.f l0 a1 (([(⟨a2_0, (⟨a2_1, a2_2⟩ : S22), a2_3, (⟨a2_4, a2_5, a2_6⟩ : S24)⟩ : S26)] : List (S26)))).bind fun t164 => (some (t164, true)))) = some (r1, r2) := by rw [if_neg (show ¬ (false = true) by decide)] at H; exact H
        clear H
        have H := H1
        clear H1
        by_cases c24 : a2_3 = 2
        · rw [if_pos c24] at H
          have c24b0 : (a2_3 == 2) = true := beq_iff_eq.mpr c24
          have c24b1 : (a2_3 != 2) = false := bne_eq_false_iff_eq.mpr c24
          clear c24
          replace H := Option.bind_eq_some_iff.mp H
          obtain ⟨⟨t148, t149, t150, t151, t152, t153, t154⟩, A250, H⟩ := H
          replace H : ((line_laid.f l0 a1 (([(⟨a2_0, (⟨a2_1, a2_2⟩ : S22), a2_3, (⟨a2_4, a2_5, a2_6⟩ : S24)⟩ : S26), (⟨t148, (⟨t149, t150⟩ : S22), t151, (⟨t152, t153, t154⟩ : S24)⟩ : S26)] : List (S26)))).bind fun t158 => (some (t158, true))) = some (r1, r2) := H
          have A25 := Aside0.mk A250
          clear A250
          obtain ⟨y155, hy155⟩ : ∃ y_ : List (S26), y_ = (([(⟨a2_0, (⟨a2_1, a2_2⟩ : S22), a2_3, (⟨a2_4, a2_5, a2_6⟩ : S24)⟩ : S26), (⟨t148, (⟨t149, t150⟩ : S22), t151, (⟨t152, t153, t154⟩ : S24)⟩ : S26)] : List (S26))) := ⟨_, rfl⟩
          replace H : ((line_laid.f l0 a1 y155).bind fun t158 => (some (t158, true))) = some (r1, r2) := by first | (rw [hy155]; with_reducible exact H) | (have H2_ := (Option.bind_some _ _).symm.trans H; rw [hy155]; with_reducible exact H2_) | (have H2_ := (Option.bind_some _ _).symm.trans H; with_reducible exact H2_) | with_reducible exact H | (rw [hy155]; exact H) | exact H
          have Ny155 := Aside0.mk hy155
          clear hy155
          replace H := Option.bind_eq_some_iff.mp H
          obtain ⟨t158, A260, H⟩ := H
          replace H : (some (t158, true)) = some (r1, r2) := H
          have A26 := Aside0.mk A260
          clear A260
          simp only [Option.some.injEq, Prod.mk.injEq] at H
          obtain ⟨rfl, rfl⟩ := H
          have hcz27_0 : wc.cell? ⟨gb143, 0, none⟩ = some (.int .i32 a2_0) := (blk_cell BK143.out 0).trans rfl
          have hcz27_1 : wc.cell? ⟨gb143, 1, none⟩ = some (.int .i32 a2_1) := (blk_cell BK143.out 1).trans rfl
          have hcz27_2 : wc.cell? ⟨gb143, 2, none⟩ = some (.int .i32 a2_2) := (blk_cell BK143.out 2).trans rfl
          have hcz27_3 : wc.cell? ⟨gb143, 3, none⟩ = some (.int .u8 a2_3) := (blk_cell BK143.out 3).trans rfl
          have hcz27_4 : wc.cell? ⟨gb143, 4, none⟩ = some (.int .u8 a2_4) := (blk_cell BK143.out 4).trans rfl
          have hcz27_5 : wc.cell? ⟨gb143, 5, none⟩ = some (.int .u8 a2_5) := (blk_cell BK143.out 5).trans rfl
          have hcz27_6 : wc.cell? ⟨gb143, 6, none⟩ = some (.int .u8 a2_6) := (blk_cell BK143.out 6).trans rfl
          have hfz27_0 := blk_frozen BK143.out 0
          have hfz27_1 := blk_frozen BK143.out 1
          have hfz27_2 := blk_frozen BK143.out 2
          have hfz27_3 := blk_frozen BK143.out 3
          have hfz27_4 := blk_frozen BK143.out 4
          have hfz27_5 := blk_frozen BK143.out 5
          have hfz27_6 := blk_frozen BK143.out 6
          try go_wp2
          have n0_ := Aside0.mk (blk_drew BK143.out)
          have n1_ := Aside0.mk (below_drew1 HB.out)
          clear BK143
          clear HB
          have BK143 := n0_
          have HB := n1_
          clear n0_ n1_
          refine start_ (n := 9) (S := fun w' => w'.cell? ⟨gb143, 0, none⟩ = some (.int .i32 a2_0) ∧ w'.cell? ⟨gb143, 1, none⟩ = some (.int .i32 a2_1) ∧ w'.cell? ⟨gb143, 2, none⟩ = some (.int .i32 a2_2) ∧ w'.cell? ⟨gb143, 3, none⟩ = some (.int .u8 a2_3) ∧ w'.cell? ⟨gb143, 4, none⟩ = some (.int .u8 a2_4) ∧ w'.cell? ⟨gb143, 5, none⟩ = some (.int .u8 a2_5) ∧ w'.cell? ⟨gb143, 6, none⟩ = some (.int .u8 a2_6)) (ds := []) #[false, false, false, false, false, false, false, false, false] (by kernel_rfl) rfl rfl ⟨(blk_cell BK143.out 0).trans rfl, (blk_cell BK143.out 1).trans rfl, (blk_cell BK143.out 2).trans rfl, (blk_cell BK143.out 3).trans rfl, (blk_cell BK143.out 4).trans rfl, (blk_cell BK143.out 5).trans rfl, (blk_cell BK143.out 6).trans rfl⟩ (fun hHeld => ?_); refine with_tabW line_Put.tab4 line_Put.bits4 (fun HT_ HW_ => ?_)
          generalize wc.drew = w28 at BK143 HB hHeld ⊢
          refine pure_ (i := 0) (N := some 41) (v := ?_) (a' := ?_) #[true, false, false, false, false, false, false, false, false] rfl rfl (any_of HT_.out (by kernel_rfl)) (fun _ _ _ h => h) (Or.inl ⟨by rfl, ?_⟩) ?_ ?_
          rotate_left
          · intro w'
            go_simp
            with_reducible rfl
          rotate_left
          · simp only [Act.put, List.setIfInBounds_toArray, List.set_cons_zero, List.set_cons_succ, i64_w, i32_w]
            rfl
          refine pure_ (i := 1) (N := some 42) (v := ?_) (a' := ?_) #[true, true, false, false, false, false, false, false, false] rfl rfl (any_of HT_.out (by kernel_rfl)) (fun _ _ _ h => h) (Or.inl ⟨by rfl, ?_⟩) ?_ ?_
          rotate_left
          · intro w'
            go_simp
            with_reducible rfl
          rotate_left
          · simp only [Act.put, List.setIfInBounds_toArray, List.set_cons_zero, List.set_cons_succ, i64_w, i32_w]
            rfl
          refine take_ (i := 2) (N := some 43) (v := ?_) (a' := ?_) #[true, true, true, false, false, false, false, false, false] rfl rfl (take_ofW HT_.out HW_.out (by kernel_rfl)) (fun _ _ _ h => h) (Or.inl ⟨by rfl, ?_⟩) hHeld ?_ ?_
          rotate_left
          · rintro w' ⟨s0, s1, s2, s3, s4, s5, s6⟩
            go_simp
            with_reducible rfl
          rotate_left
          · simp only [Act.put, List.setIfInBounds_toArray, List.set_cons_zero, List.set_cons_succ, i64_w, i32_w]
            rfl
          refine take_ (i := 3) (N := some 44) (v := ?_) (a' := ?_) #[true, true, true, true, false, false, false, false, false] rfl rfl (take_ofW HT_.out HW_.out (by kernel_rfl)) (fun _ _ _ h => h) (Or.inl ⟨by rfl, ?_⟩) hHeld ?_ ?_
          rotate_left
          · rintro w' ⟨s0, s1, s2, s3, s4, s5, s6⟩
            go_simp
            with_reducible rfl
          rotate_left
          · simp only [Act.put, List.setIfInBounds_toArray, List.set_cons_zero, List.set_cons_succ, i64_w, i32_w]
            rfl
          refine one_ (i := 4) (N := some 45) #[true, true, true, true, true, false, false, false, false] rfl rfl (one_of HT_.out (by kernel_rfl)) (by decide) (fun K hK => ?_)
          refine goes_ Try.func23 (by kernel_rfl) rfl #[.agg #[.int .i32 a2_0, .int .i32 a2_1, .int .i32 a2_2, .int .u8 a2_3, .int .u8 a2_4, .int .u8 a2_5, .int .u8 a2_6]] (by rfl) rfl rfl (by (try simp only [List.map_toArray, List.map_cons, List.map_nil]); first | done | rfl | (simp only [List.length_drop, List.length_take]; rfl)) ?_
          with_reducible refine (cell_Rest.calls a2_0 a2_1 a2_2 a2_3 a2_4 a2_5 a2_6 t148 t149 t150 t151 t152 t153 t154 _ A25.out).mono ?_
          rintro e w29 ⟨rfl, hb⟩
          refine ⟨_, rfl, ?_⟩
          have n0_ := Aside0.mk (blk_below (g := gb143) (o := .cells #[.int .i32 a2_0, .int .i32 a2_1, .int .i32 a2_2, .int .u8 a2_3, .int .u8 a2_4, .int .u8 a2_5, .int .u8 a2_6] 26 (0, 0)) (by (with_reducible repeat (first | refine blk_drewN ?_ _ | refine blk_drew ?_ | refine blk_alloc ?_ _)); exact BK143.out) hb)
          have n1_ := Aside0.mk (below_step (by repeat (first | (with_reducible first | exact HB.out | apply below_alloc | apply pw_below_drewN | apply below_drew1 | refine below_set ?_ GE143.out) | exact HB.out)) hb)
          clear BK143
          clear HB
          have BK143 := n0_
          have HB := n1_
          clear n0_ n1_
          (try clear hb)
          (try clear hb2)
          (try clear hk)
          (try clear hi)
          refine hK.out _ _ ⟨(blk_cell BK143.out 0).trans rfl, (blk_cell BK143.out 1).trans rfl, (blk_cell BK143.out 2).trans rfl, (blk_cell BK143.out 3).trans rfl, (blk_cell BK143.out 4).trans rfl, (blk_cell BK143.out 5).trans rfl, (blk_cell BK143.out 6).trans rfl⟩ (fun hHeld => ?_)
          clear hK K
          refine norm_ (a' := ?_) ?_ ?_
          rotate_left
          · show Act.put _ (some 45) _ = _
            simp only [Act.put, List.setIfInBounds_toArray, List.set_cons_zero, List.set_cons_succ, i64_w, i32_w]
            rfl
          refine one_ (i := 5) (N := some 46) #[true, true, true, true, true, true, false, false, false] rfl rfl (one_of HT_.out (by kernel_rfl)) (by decide) (fun K hK => ?_)
          refine Kd.R_lit_step k26 _ 26 ?hg (N := 46) ?hd (xs := ([(⟨a2_0, (⟨a2_1, a2_2⟩ : S22), a2_3, (⟨a2_4, a2_5, a2_6⟩ : S24)⟩ : S26), (⟨t148, (⟨t149, t150⟩ : S22), t151, (⟨t152, t153, t154⟩ : S24)⟩ : S26)] : List (S26))) (inner := [.int .i32 a2_0, .int .i32 a2_1, .int .i32 a2_2, .int .u8 a2_3, .int .u8 a2_4, .int .u8 a2_5, .int .u8 a2_6, .int .i32 t148, .int .i32 t149, .int .i32 t150, .int .u8 t151, .int .u8 t152, .int .u8 t153, .int .u8 t154]) (ok := fun _ => True) (okp := fun _ => True) ?hr ?hp (fun _ hk => hk) trivial (Below.refl _ _) (Nat.le_refl _) (by simp) ?_; (case hd => rfl); (case hg => rfl); (case hr => first | (go_simp; done) | (go_simp; rfl)); (case hp => exact (Reps.c7 (show Kd.M k26 _ _ _ (⟨a2_0, (⟨a2_1, a2_2⟩ : S22), a2_3, (⟨a2_4, a2_5, a2_6⟩ : S24)⟩ : S26) [.int .i32 a2_0, .int .i32 a2_1, .int .i32 a2_2, .int .u8 a2_3, .int .u8 a2_4, .int .u8 a2_5, .int .u8 a2_6] from (k26_mkM _ _ _ (⟨a2_0, (⟨a2_1, a2_2⟩ : S22), a2_3, (⟨a2_4, a2_5, a2_6⟩ : S24)⟩ : S26) )) (Reps.c7 (show Kd.M k26 _ _ _ (⟨t148, (⟨t149, t150⟩ : S22), t151, (⟨t152, t153, t154⟩ : S24)⟩ : S26) [.int .i32 t148, .int .i32 t149, .int .i32 t150, .int .u8 t151, .int .u8 t152, .int .u8 t153, .int .u8 t154] from (k26_mkM _ _ _ (⟨t148, (⟨t149, t150⟩ : S22), t151, (⟨t152, t153, t154⟩ : S24)⟩ : S26) )) (Reps.none _ _))))
          intro v156 w30 ho31 hb hg_ hnew_
          clear hg_ hnew_
          (first | rw [← Ny155.out] at ho31 | (simp only [Int.reduceToNat] at ho31; rw [← Ny155.out] at ho31))
          have n0_ := Aside0.mk (Kd.R_lower (Kd.R_newB ho31 (g := gb143) (o := .cells #[.int .i32 a2_0, .int .i32 a2_1, .int .i32 a2_2, .int .u8 a2_3, .int .u8 a2_4, .int .u8 a2_5, .int .u8 a2_6] 26 (0, 0)) (by (with_reducible repeat (first | refine blk_drewN ?_ _ | refine blk_drew ?_ | refine blk_alloc ?_ _)); exact BK143.out)) (below_size (by repeat (first | (with_reducible first | exact HB.out | apply below_alloc | apply pw_below_drewN | apply below_drew1 | refine below_set ?_ GE143.out) | exact HB.out))))
          have n1_ := Aside0.mk (blk_below (g := gb143) (o := .cells #[.int .i32 a2_0, .int .i32 a2_1, .int .i32 a2_2, .int .u8 a2_3, .int .u8 a2_4, .int .u8 a2_5, .int .u8 a2_6] 26 (0, 0)) (by (with_reducible repeat (first | refine blk_drewN ?_ _ | refine blk_drew ?_ | refine blk_alloc ?_ _)); exact BK143.out) hb)
          have n2_ := Aside0.mk (below_step (by repeat (first | (with_reducible first | exact HB.out | apply below_alloc | apply pw_below_drewN | apply below_drew1 | refine below_set ?_ GE143.out) | exact HB.out)) hb)
          clear BK143
          clear HB
          have HO157 := n0_
          have BK143 := n1_
          have HB := n2_
          clear n0_ n1_ n2_
          clear hb ho31
          obtain ⟨Ao32, co32, eo32⟩ := Kd.R_slice HO157.out
          (first | subst eo32 | (injection eo32 with f1_ f2_ f3_; have f4_ := f1_.symm; have f5_ := f3_.symm; clear f1_ f2_ f3_; subst f4_; subst f5_))
          refine hK.out _ _ ⟨(blk_cell BK143.out 0).trans rfl, (blk_cell BK143.out 1).trans rfl, (blk_cell BK143.out 2).trans rfl, (blk_cell BK143.out 3).trans rfl, (blk_cell BK143.out 4).trans rfl, (blk_cell BK143.out 5).trans rfl, (blk_cell BK143.out 6).trans rfl⟩ (fun hHeld => ?_)
          clear hK K
          refine norm_ (a' := ?_) ?_ ?_
          rotate_left
          · show Act.put _ (some 46) _ = _
            simp only [Act.put, List.setIfInBounds_toArray, List.set_cons_zero, List.set_cons_succ, i64_w, i32_w]
            rfl
          refine one_ (i := 6) (N := some 47) #[true, true, true, true, true, true, true, false, false] rfl rfl (one_of HT_.out (by kernel_rfl)) (by decide) (fun K hK => ?_)
          refine goes_ Try.func96 (by kernel_rfl) rfl #[.slice A0 l0.length c0, .int .i64 a1, .slice Ao32 y155.length co32] (by rfl) rfl rfl (by (try simp only [List.map_toArray, List.map_cons, List.map_nil]); first | done | rfl | (simp only [List.length_drop, List.length_take]; rfl)) ?_
          with_reducible refine (line_laid.calls _ _ l0 a1 _ _ y155 t158 _ ?side1 ?side2 ?side3 ?side4 A26.out).mono ?_
          (case side1 => repeat (first | exact (Kd.C_below HR0.out HB.out) | (with_reducible refine Kd.C_alloc ?_ _) | (with_reducible refine Kd.C_drewN ?_ _) | (with_reducible refine Kd.C_drew ?_)))
          (case side2 => exact HC0.out)
          (case side3 => repeat (first | exact (Kd.R_reads' HO157.out).2.2 | (with_reducible refine Kd.C_alloc ?_ _) | (with_reducible refine Kd.C_drewN ?_ _) | (with_reducible refine Kd.C_drew ?_)))
          (case side4 => exact (Kd.R_reads' HO157.out).2.1)
          rintro e w33 ⟨v159, rfl, ho0, hb⟩
          refine ⟨_, rfl, ?_⟩
          have n0_ := Aside0.mk (Kd.R_elder' (by (with_reducible repeat (first | apply Kd.R_alloc | apply Kd.R_drewN | apply Kd.R_drew)); exact HO157.out) (Kd.R_base ho0) hb)
          have n1_ := Aside0.mk (Kd.R_lower (Kd.R_newB (Kd.R_new' ho0 (Kd.R_lt (by (with_reducible repeat (first | apply Kd.R_alloc | apply Kd.R_drewN | apply Kd.R_drew)); exact HO157.out))) (g := gb143) (o := .cells #[.int .i32 a2_0, .int .i32 a2_1, .int .i32 a2_2, .int .u8 a2_3, .int .u8 a2_4, .int .u8 a2_5, .int .u8 a2_6] 26 (0, 0)) (by (with_reducible repeat (first | refine blk_drewN ?_ _ | refine blk_drew ?_ | refine blk_alloc ?_ _)); exact BK143.out)) (below_size (by repeat (first | (with_reducible first | exact HB.out | apply below_alloc | apply pw_below_drewN | apply below_drew1 | refine below_set ?_ GE143.out) | exact HB.out))))
          have n2_ := Aside0.mk (blk_below (g := gb143) (o := .cells #[.int .i32 a2_0, .int .i32 a2_1, .int .i32 a2_2, .int .u8 a2_3, .int .u8 a2_4, .int .u8 a2_5, .int .u8 a2_6] 26 (0, 0)) (by (with_reducible repeat (first | refine blk_drewN ?_ _ | refine blk_drew ?_ | refine blk_alloc ?_ _)); exact BK143.out) hb)
          have n3_ := Aside0.mk (below_step (by repeat (first | (with_reducible first | exact HB.out | apply below_alloc | apply pw_below_drewN | apply below_drew1 | refine below_set ?_ GE143.out) | exact HB.out)) hb)
          clear HO157
          clear BK143
          clear HB
          have HO157 := n0_
          have HO160 := n1_
          have BK143 := n2_
          have HB := n3_
          clear n0_ n1_ n2_ n3_
          (try clear hb)
          (try clear hb2)
          (try clear hk)
          (try clear hi)
          (try clear ho0)
          refine hK.out _ _ ⟨(blk_cell BK143.out 0).trans rfl, (blk_cell BK143.out 1).trans rfl, (blk_cell BK143.out 2).trans rfl, (blk_cell BK143.out 3).trans rfl, (blk_cell BK143.out 4).trans rfl, (blk_cell BK143.out 5).trans rfl, (blk_cell BK143.out 6).trans rfl⟩ (fun hHeld => ?_)
          clear hK K
          refine norm_ (a' := ?_) ?_ ?_
          rotate_left
          · show Act.put _ (some 47) _ = _
            simp only [Act.put, List.setIfInBounds_toArray, List.set_cons_zero, List.set_cons_succ, i64_w, i32_w]
            rfl
          refine pure_ (i := 7) (N := some 6) (v := ?_) (a' := ?_) #[true, true, true, true, true, true, true, true, false] rfl rfl (any_of HT_.out (by kernel_rfl)) (fun _ _ _ h => h) (Or.inl ⟨by rfl, ?_⟩) ?_ ?_
          rotate_left
          · intro w'
            go_simp
            with_reducible rfl
          rotate_left
          · simp only [Act.put, List.setIfInBounds_toArray, List.set_cons_zero, List.set_cons_succ, i64_w, i32_w]
            rfl
          refine pure_ (i := 8) (N := some 7) (v := ?_) (a' := ?_) #[true, true, true, true, true, true, true, true, true] rfl rfl (any_of HT_.out (by kernel_rfl)) (fun _ _ _ h => h) (Or.inl ⟨by rfl, ?_⟩) ?_ ?_
          rotate_left
          · intro w'
            go_simp
            with_reducible rfl
          rotate_left
          · simp only [Act.put, List.setIfInBounds_toArray, List.set_cons_zero, List.set_cons_succ, i64_w, i32_w]
            rfl
          refine done_ (done_of HT_.out (by kernel_rfl)) ?_
          try go_wp2
          go_ret2
          exact ⟨_, by first | rfl | (simp <;> rfl) | (simp [*] <;> rfl), by (with_reducible repeat (first | apply Kd.R_alloc | apply Kd.R_drewN | apply Kd.R_drew)); exact Kd.R_mono HO160.out (fun _ hk => trivial), by repeat (first | (with_reducible first | exact HB.out | apply below_alloc | apply pw_below_drewN | apply below_drew1 | refine below_set ?_ GE143.out) | exact HB.out)⟩
        · rw [if_neg c24] at H
          have c24b0 : (a2_3 == 2) = false := beq_eq_false_iff_ne.mpr c24
          have c24b1 : (a2_3 != 2) = true := bne_iff_ne.mpr c24
          obtain ⟨y161, hy161⟩ : ∃ y_ : List (S26), y_ = (([(⟨a2_0, (⟨a2_1, a2_2⟩ : S22), a2_3, (⟨a2_4, a2_5, a2_6⟩ : S24)⟩ : S26)] : List (S26))) := ⟨_, rfl⟩
          replace H : ((line_laid.f l0 a1 y161).bind fun t164 => (some (t164, true))) = some (r1, r2) := by first | (rw [hy161]; with_reducible exact H) | (have H2_ := (Option.bind_some _ _).symm.trans H; rw [hy161]; with_reducible exact H2_) | (have H2_ := (Option.bind_some _ _).symm.trans H; with_reducible exact H2_) | with_reducible exact H | (rw [hy161]; exact H) | exact H
          have Ny161 := Aside0.mk hy161
          clear hy161
          replace H := Option.bind_eq_some_iff.mp H
          obtain ⟨t164, A340, H⟩ := H
          replace H : (some (t164, true)) = some (r1, r2) := H
          have A34 := Aside0.mk A340
          clear A340
          simp only [Option.some.injEq, Prod.mk.injEq] at H
          obtain ⟨rfl, rfl⟩ := H
          have hcz35_0 : wc.cell? ⟨gb143, 0, none⟩ = some (.int .i32 a2_0) := (blk_cell BK143.out 0).trans rfl
          have hcz35_1 : wc.cell? ⟨gb143, 1, none⟩ = some (.int .i32 a2_1) := (blk_cell BK143.out 1).trans rfl
          have hcz35_2 : wc.cell? ⟨gb143, 2, none⟩ = some (.int .i32 a2_2) := (blk_cell BK143.out 2).trans rfl
          have hcz35_3 : wc.cell? ⟨gb143, 3, none⟩ = some (.int .u8 a2_3) := (blk_cell BK143.out 3).trans rfl
          have hcz35_4 : wc.cell? ⟨gb143, 4, none⟩ = some (.int .u8 a2_4) := (blk_cell BK143.out 4).trans rfl
          have hcz35_5 : wc.cell? ⟨gb143, 5, none⟩ = some (.int .u8 a2_5) := (blk_cell BK143.out 5).trans rfl
          have hcz35_6 : wc.cell? ⟨gb143, 6, none⟩ = some (.int .u8 a2_6) := (blk_cell BK143.out 6).trans rfl
          have hfz35_0 := blk_frozen BK143.out 0
          have hfz35_1 := blk_frozen BK143.out 1
          have hfz35_2 := blk_frozen BK143.out 2
          have hfz35_3 := blk_frozen BK143.out 3
          have hfz35_4 := blk_frozen BK143.out 4
          have hfz35_5 := blk_frozen BK143.out 5
          have hfz35_6 := blk_frozen BK143.out 6
          go_wp2_with (first | ((with_reducible refine gate_dst (N := 51) rfl ?_); (try (refine gate_guard (by rfl) ?_; dsimp only)); refine Kd.R_lit k26 _ 26 ?hg (N := 51) ?hd (xs := ([(⟨a2_0, (⟨a2_1, a2_2⟩ : S22), a2_3, (⟨a2_4, a2_5, a2_6⟩ : S24)⟩ : S26)] : List (S26))) (inner := [.int .i32 a2_0, .int .i32 a2_1, .int .i32 a2_2, .int .u8 a2_3, .int .u8 a2_4, .int .u8 a2_5, .int .u8 a2_6]) (ok := fun _ => True) (okp := fun _ => True) ?hr ?hp (fun _ hk => hk) trivial (Below.refl _ _) (Nat.le_refl _) (by simp) ?_; (case hd => rfl); (case hg => rfl); (case hr => first | (go_simp; done) | (go_simp; rfl)); (case hp => exact (Reps.c7 (show Kd.M k26 _ _ _ (⟨a2_0, (⟨a2_1, a2_2⟩ : S22), a2_3, (⟨a2_4, a2_5, a2_6⟩ : S24)⟩ : S26) [.int .i32 a2_0, .int .i32 a2_1, .int .i32 a2_2, .int .u8 a2_3, .int .u8 a2_4, .int .u8 a2_5, .int .u8 a2_6] from (k26_mkM _ _ _ (⟨a2_0, (⟨a2_1, a2_2⟩ : S22), a2_3, (⟨a2_4, a2_5, a2_6⟩ : S24)⟩ : S26) )) (Reps.none _ _))); intro v162 w36 ho37 hb hg_ hnew_; clear hg_ hnew_; (first | rw [← Ny161.out] at ho37 | (simp only [Int.reduceToNat] at ho37; rw [← Ny161.out] at ho37)); have n0_ := Aside0.mk (Kd.R_lower (Kd.R_newB ho37 (g := gb143) (o := .cells #[.int .i32 a2_0, .int .i32 a2_1, .int .i32 a2_2, .int .u8 a2_3, .int .u8 a2_4, .int .u8 a2_5, .int .u8 a2_6] 26 (0, 0)) (by (with_reducible repeat (first | refine blk_drewN ?_ _ | refine blk_drew ?_ | refine blk_alloc ?_ _)); exact BK143.out)) (below_size (by repeat (first | (with_reducible first | exact HB.out | apply below_alloc | apply pw_below_drewN | apply below_drew1 | refine below_set ?_ GE143.out) | exact HB.out)))); have n1_ := Aside0.mk (blk_below (g := gb143) (o := .cells #[.int .i32 a2_0, .int .i32 a2_1, .int .i32 a2_2, .int .u8 a2_3, .int .u8 a2_4, .int .u8 a2_5, .int .u8 a2_6] 26 (0, 0)) (by (with_reducible repeat (first | refine blk_drewN ?_ _ | refine blk_drew ?_ | refine blk_alloc ?_ _)); exact BK143.out) hb); have n2_ := Aside0.mk (below_step (by repeat (first | (with_reducible first | exact HB.out | apply below_alloc | apply pw_below_drewN | apply below_drew1 | refine below_set ?_ GE143.out) | exact HB.out)) hb); clear BK143; clear HB; have HO163 := n0_; have BK143 := n1_; have HB := n2_; clear n0_ n1_ n2_; clear hb ho37; obtain ⟨Ao38, co38, eo38⟩ := Kd.R_slice HO163.out; subst eo38) | ((with_reducible refine gate_callee (f := 96) rfl ?_); refine goesL_ (some 52) rfl rfl Try.func96 (by kernel_rfl) rfl #[.slice A0 l0.length c0, .int .i64 a1, .slice Ao38 y161.length co38] rfl (by (try simp only [List.map_toArray, List.map_cons, List.map_nil]); first | done | rfl | (simp only [List.length_drop, List.length_take]; rfl)) ?_; (with_reducible refine (line_laid.calls _ _ l0 a1 _ _ y161 t164 _ ?side1 ?side2 ?side3 ?side4 A34.out).mono ?_); (case side1 => repeat (first | exact (Kd.C_below HR0.out HB.out) | (with_reducible refine Kd.C_alloc ?_ _) | (with_reducible refine Kd.C_drewN ?_ _) | (with_reducible refine Kd.C_drew ?_))); (case side2 => exact HC0.out); (case side3 => repeat (first | exact (Kd.R_reads' HO163.out).2.2 | (with_reducible refine Kd.C_alloc ?_ _) | (with_reducible refine Kd.C_drewN ?_ _) | (with_reducible refine Kd.C_drew ?_))); (case side4 => exact (Kd.R_reads' HO163.out).2.1); rintro e w39 ⟨v165, rfl, ho0, hb⟩; refine ⟨_, rfl, ?_⟩; have n0_ := Aside0.mk (Kd.R_elder' (by (with_reducible repeat (first | apply Kd.R_alloc | apply Kd.R_drewN | apply Kd.R_drew)); exact HO163.out) (Kd.R_base ho0) hb); have n1_ := Aside0.mk (Kd.R_lower (Kd.R_newB (Kd.R_new' ho0 (Kd.R_lt (by (with_reducible repeat (first | apply Kd.R_alloc | apply Kd.R_drewN | apply Kd.R_drew)); exact HO163.out))) (g := gb143) (o := .cells #[.int .i32 a2_0, .int .i32 a2_1, .int .i32 a2_2, .int .u8 a2_3, .int .u8 a2_4, .int .u8 a2_5, .int .u8 a2_6] 26 (0, 0)) (by (with_reducible repeat (first | refine blk_drewN ?_ _ | refine blk_drew ?_ | refine blk_alloc ?_ _)); exact BK143.out)) (below_size (by repeat (first | (with_reducible first | exact HB.out | apply below_alloc | apply pw_below_drewN | apply below_drew1 | refine below_set ?_ GE143.out) | exact HB.out)))); have n2_ := Aside0.mk (blk_below (g := gb143) (o := .cells #[.int .i32 a2_0, .int .i32 a2_1, .int .i32 a2_2, .int .u8 a2_3, .int .u8 a2_4, .int .u8 a2_5, .int .u8 a2_6] 26 (0, 0)) (by (with_reducible repeat (first | refine blk_drewN ?_ _ | refine blk_drew ?_ | refine blk_alloc ?_ _)); exact BK143.out) hb); have n3_ := Aside0.mk (below_step (by repeat (first | (with_reducible first | exact HB.out | apply below_alloc | apply pw_below_drewN | apply below_drew1 | refine below_set ?_ GE143.out) | exact HB.out)) hb); clear HO163; clear BK143; clear HB; have HO163 := n0_; have HO166 := n1_; have BK143 := n2_; have HB := n3_; clear n0_ n1_ n2_ n3_; (try clear hb); (try clear hb2); (try clear hk); (try clear hi); (try clear ho0)))
          go_ret2
          exact ⟨_, by first | rfl | (simp <;> rfl) | (simp [*] <;> rfl), by (with_reducible repeat (first | apply Kd.R_alloc | apply Kd.R_drewN | apply Kd.R_drew)); exact Kd.R_mono HO166.out (fun _ hk => trivial), by repeat (first | (with_reducible first | exact HB.out | apply below_alloc | apply pw_below_drewN | apply below_drew1 | refine below_set ?_ GE143.out) | exact HB.out)⟩

/-! ### line_length: function 98 -/
def line_length.f (a0 : Int) : Option (Int) := some (mn (mx a0 0) 512)
set_option maxHeartbeats 8000000 in
set_option maxRecDepth 100000 in
theorem line_length.calls (a0 : Int) (r : Int) (w : World) (h : line_length.f a0 = some r) :
    Calls Try.prog 98 #[.int .i64 a0] w fun e w' => e = .returned (.int .i64 r) ∧ Below w.heap.size w w' := by
  have HB := Aside0.mk (Below.refl w.heap.size w)
  have H : (some (mn (mx a0 0) 512)) = some r := h
  clear h
  obtain ⟨ji2, hji2⟩ : ∃ j_ : Int, (mx a0 0) = j_ := ⟨_, rfl⟩
  replace H : (some (mn (ji2) 512)) = some r := by first | (rw [hji2] at H; exact H) | (simp only [hji2] at H ⊢; exact H)
  (try (have hji2l : 0 ≤ ji2 := by (rw [← hji2]; unfold mx; (repeat' split) <;> omega)))
  (try (have hji2m : 0 ≤ ji2 := by omega))
  have hji2_ : (if a0 < 0 then 0 else a0) = ji2 := hji2
  obtain ⟨ji3, hji3⟩ : ∃ j_ : Int, (mn (ji2) 512) = j_ := ⟨_, rfl⟩
  replace H : (some ji3) = some r := by first | (rw [hji3] at H; exact H) | (simp only [hji3] at H ⊢; exact H)
  have hji3_ : (if 512 < (ji2) then 512 else (ji2)) = ji3 := hji3
  obtain rfl := Option.some.inj H
  go_enter Try.func98, Try.ntmps98
  go_wp2
  go_ret
  exact ⟨by first | rfl | (simp <;> rfl) | (simp only [← hji2, ← hji3]; first | rfl | (simp <;> rfl)) | (simp [*] <;> rfl), by repeat (first | (with_reducible first | exact HB.out | apply below_alloc | apply pw_below_drewN | apply below_drew1) | exact HB.out)⟩

/-! ### line_blanks: function 99 -/
def line_blanks.l0 : Nat → List (S26) → Int → Int → Int → Int → Int → Option ((List (S26)))
  | 0, _, _, _, _, _, _ => none
  | k + 1, x5, x6, x7, x168000, x168001, x168002 => if x7 < x6 then ((cell_Blank.f x168000 x168001 x168002).bind fun bt168 => (if x5.length < 8796093022208 then (line_blanks.l0 k (x5 ++ [(⟨bt168.1, (⟨bt168.2.1, bt168.2.2.1⟩ : S22), bt168.2.2.2.1, (⟨bt168.2.2.2.2.1, bt168.2.2.2.2.2.1, bt168.2.2.2.2.2.2⟩ : S24)⟩ : S26)]) x6 (wrap64 (x7 + 1)) x168000 x168001 x168002) else (none))) else (some x5)
def line_blanks.f (k : Nat) (a0 : Int) (a1_0 : Int) (a1_1 : Int) (a1_2 : Int) : Option ((List (S26))) := line_blanks.l0 k ([] : List (S26)) a0 0 a1_0 a1_1 a1_2
set_option maxHeartbeats 8000000 in
set_option maxRecDepth 100000 in
theorem line_blanks.calls (k : Nat) (a0 : Int) (a1_0 : Int) (a1_1 : Int) (a1_2 : Int) (r : List (S26)) (w : World) (h : line_blanks.f k a0 a1_0 a1_1 a1_2 = some r) :
    Calls Try.prog 99 #[.int .i64 a0, .agg #[.int .u8 a1_0, .int .u8 a1_1, .int .u8 a1_2]] w fun e w' => ∃ v0_ : Value, e = .returned (v0_) ∧ Kd.R k26 26 w' w.heap.size (fun _ => True) v0_ r ∧ Below w.heap.size w w' := by
  have hu24 := Try.underlying24
  have HB := Aside0.mk (Below.refl w.heap.size w)
  have H : (line_blanks.l0 k ([] : List (S26)) a0 0 a1_0 a1_1 a1_2) = some r := h
  clear h
  have H' := Aside0.mk H
  clear H
  go_enter Try.func99, Try.ntmps99
  go_wp2_with (first | ((with_reducible refine gate_dst (N := 3) rfl ?_); refine box_event ?hg (N := 3) ?hd (cs := #[.int .u8 a1_0, .int .u8 a1_1, .int .u8 a1_2]) (t := 24) ?hr ?_; (case hd => rfl); (case hg => rfl); (case hr => first | (go_simp; done) | (go_simp; rfl)); intro gb167 hg w3 hbox hb; have n0_ := Aside0.mk (below_step (by repeat (first | (with_reducible first | exact HB.out | apply below_alloc | apply pw_below_drewN | apply below_drew1) | exact HB.out)) hb); have n1_ := Aside0.mk (hbox); have n2_ := Aside0.mk ((by rw [hg]; exact (below_size (by repeat (first | (with_reducible first | exact HB.out | apply below_alloc | apply pw_below_drewN | apply below_drew1) | exact HB.out))) : w.heap.size ≤ gb167)); have n3_ := Aside0.mk ((by rw [hg]; exact (below_size (by repeat (first | (with_reducible first | exact HB.out | apply below_alloc | apply pw_below_drewN | apply below_drew1) | exact HB.out))) : w.heap.size ≤ gb167)); clear HB; have HB := n0_; have BK167 := n1_; have GW167 := n2_; have GE167 := n3_; clear n0_ n1_ n2_ n3_; clear hb hbox hg))
  go_loopg [5, 7] k (fun kq v5 v7 w' => ∃ (x5_1 : List (S26)) (x7_1 : Int), v7 = .int .i64 x7_1 ∧ Aside0 (line_blanks.l0 kq x5_1 a0 x7_1 a1_0 a1_1 a1_2 = some r) ∧ Aside0 (kq ≤ k) ∧ Aside0 (Kd.R k26 26 w' w.heap.size (fun _ => True) v5 x5_1) ∧ Aside0 (w'.heap[gb167]? = some (.cells #[.int .u8 a1_0, .int .u8 a1_1, .int .u8 a1_2] 24 (0, 0))) ∧ Aside0 (Below w.heap.size w w'))
  case atStart => exact ⟨(([] : List (S26))), (0), (by first | rfl | (simp; done) | (simp [*]; done)), H', ⟨Nat.le_refl _⟩, ⟨by first | exact Kd.R_nil _ _ _ _ _ | exact Kd.N_nil _ _ _ _ _ | exact Kd.V_nil _ _ _ _ _ | exact Kd.Q_nil _ _ _ _ _ | exact Kd.S_nil _ _ _ _ _⟩, ⟨by (with_reducible repeat (first | refine blk_drewN ?_ _ | refine blk_drew ?_ | refine blk_alloc ?_ _)); exact BK167.out⟩, ⟨by repeat (first | (with_reducible first | exact HB.out | apply below_alloc | apply pw_below_drewN | apply below_drew1 | refine below_set ?_ GE167.out) | exact HB.out)⟩⟩
  case round =>
    clear H'
    try clear p2
    obtain ⟨x5_1, x7_1, rfl, HA, HK1, HO_5, BK167, HB⟩ := hrel
    cases gk with
    | zero => exact absurd HA.out (by simp [line_blanks.l0])
    | succ k1 =>
      have H := HA.out
      clear HA
      simp only [line_blanks.l0] at H
      by_cases c4 : x7_1 < a0
      · rw [if_pos c4] at H
        have c4b0 : decide (x7_1 < a0) = true := decide_eq_true c4
        clear c4
        replace H := Option.bind_eq_some_iff.mp H
        obtain ⟨⟨t168, t169, t170, t171, t172, t173, t174⟩, A50, H⟩ := H
        replace H : (if x5_1.length < 8796093022208 then (line_blanks.l0 k1 (x5_1 ++ [(⟨t168, (⟨t169, t170⟩ : S22), t171, (⟨t172, t173, t174⟩ : S24)⟩ : S26)]) a0 (wrap64 (x7_1 + 1)) a1_0 a1_1 a1_2) else (none)) = some r := H
        have A5 := Aside0.mk A50
        clear A50
        by_cases c6 : x5_1.length < 8796093022208
        · rw [if_pos c6] at H
          have LMc6 := Aside0.mk c6
          clear c6
          obtain ⟨y175, hy175⟩ : ∃ y_ : List (S26), y_ = (x5_1 ++ [(⟨t168, (⟨t169, t170⟩ : S22), t171, (⟨t172, t173, t174⟩ : S24)⟩ : S26)]) := ⟨_, rfl⟩
          replace H : (line_blanks.l0 k1 y175 a0 (wrap64 (x7_1 + 1)) a1_0 a1_1 a1_2) = some r := by first | (rw [hy175]; with_reducible exact H) | (have H2_ := (Option.bind_some _ _).symm.trans H; rw [hy175]; with_reducible exact H2_) | (have H2_ := (Option.bind_some _ _).symm.trans H; with_reducible exact H2_) | with_reducible exact H | (rw [hy175]; exact H) | exact H
          have Ny175 := Aside0.mk hy175
          clear hy175
          have H' := Aside0.mk H
          clear H
          have hcz7_0 : wr.cell? ⟨gb167, 0, none⟩ = some (.int .u8 a1_0) := (blk_cell BK167.out 0).trans rfl
          have hcz7_1 : wr.cell? ⟨gb167, 1, none⟩ = some (.int .u8 a1_1) := (blk_cell BK167.out 1).trans rfl
          have hcz7_2 : wr.cell? ⟨gb167, 2, none⟩ = some (.int .u8 a1_2) := (blk_cell BK167.out 2).trans rfl
          have hfz7_0 := blk_frozen BK167.out 0
          have hfz7_1 := blk_frozen BK167.out 1
          have hfz7_2 := blk_frozen BK167.out 2
          go_wp2_with (first | ((with_reducible refine gate_callee (f := 21) rfl ?_); refine goesL_ (some 11) rfl rfl Try.func21 (by kernel_rfl) rfl #[.agg #[.int .u8 a1_0, .int .u8 a1_1, .int .u8 a1_2]] rfl (by (try simp only [List.map_toArray, List.map_cons, List.map_nil]); first | done | rfl | (simp only [List.length_drop, List.length_take]; rfl)) ?_; (with_reducible refine (cell_Blank.calls a1_0 a1_1 a1_2 t168 t169 t170 t171 t172 t173 t174 _ A5.out).mono ?_); rintro e w8 ⟨rfl, hb⟩; refine ⟨_, rfl, ?_⟩; have n0_ := Aside0.mk (Kd.R_below (by (with_reducible repeat (first | apply Kd.R_alloc | apply Kd.R_drewN | apply Kd.R_drew)); exact HO_5.out) hb); have n1_ := Aside0.mk (blk_below (g := gb167) (o := .cells #[.int .u8 a1_0, .int .u8 a1_1, .int .u8 a1_2] 24 (0, 0)) (by (with_reducible repeat (first | refine blk_drewN ?_ _ | refine blk_drew ?_ | refine blk_alloc ?_ _)); exact BK167.out) hb); have n2_ := Aside0.mk (below_step (by repeat (first | (with_reducible first | exact HB.out | apply below_alloc | apply pw_below_drewN | apply below_drew1 | refine below_set ?_ GE167.out) | exact HB.out)) hb); clear HO_5; clear BK167; clear HB; have HO_5 := n0_; have BK167 := n1_; have HB := n2_; clear n0_ n1_ n2_; (try clear hb); (try clear hb2); (try clear hk); (try clear hi)) | ((with_reducible refine gate_builtin (b := .append) (xs := #[.tmp 9, .tmp 12]) rfl ?_); at_builtin; refine Kd.R_append k26 (w0 := w) w.heap.size rfl (.tmp 9) (.tmp 12) 58 26 (.agg #[(.int .i32 0), (.int .i32 0), (.int .i32 0), (.int .u8 0), (.int .u8 0), (.int .u8 0), (.int .u8 0)]) 16 rfl Try.underlying58 info26 rfl (by decide) (by omega) u5 x5_1 (⟨t168, (⟨t169, t170⟩ : S22), t171, (⟨t172, t173, t174⟩ : S24)⟩ : S26) [.int .i32 t168, .int .i32 t169, .int .i32 t170, .int .u8 t171, .int .u8 t172, .int .u8 t173, .int .u8 t174] (fun _ => True) (fun _ => False) rfl rfl ?aP (fun _ hk => hk.elim) ?aF ?aO ?aB ?aS ?aL ?_; (case aP => exact k26_mkM _ _ _ (⟨t168, (⟨t169, t170⟩ : S22), t171, (⟨t172, t173, t174⟩ : S24)⟩ : S26)); (case aB => exact (by repeat (first | (with_reducible first | exact HB.out | apply below_alloc | apply pw_below_drewN | apply below_drew1 | refine below_set ?_ GE167.out) | exact HB.out))); (case aF => exact (fun _ _ => trivial)); (case aO => exact (by (with_reducible repeat (first | apply Kd.R_alloc | apply Kd.R_drewN | apply Kd.R_drew)); exact HO_5.out)); (case aS => exact (below_size (by repeat (first | (with_reducible first | exact HB.out | apply below_alloc | apply pw_below_drewN | apply below_drew1 | refine below_set ?_ GE167.out) | exact HB.out)))); (case aL => have := LMc6.out; omega); intro v176 w9 ho hb hg hat; rw [← Ny175.out] at ho; have n0_ := Aside0.mk (blk_grown (g := gb167) (o := .cells #[.int .u8 a1_0, .int .u8 a1_1, .int .u8 a1_2] 24 (0, 0)) (by (with_reducible repeat (first | refine blk_drewN ?_ _ | refine blk_drew ?_ | refine blk_alloc ?_ _)); exact BK167.out) hg (Kd.R_ne HO_5.out BK167.out (by decide))); have n1_ := Aside0.mk (hb); have n2_ := Aside0.mk (ho); clear BK167; clear HB; clear HO_5; have BK167 := n0_; have HB := n1_; have HO177 := n2_; clear n0_ n1_ n2_; clear ho hb hg hat))
          go_roundg k1
          case measure => have := HK1.out; omega
          case rel => exact ⟨(y175), (wrap64 (x7_1 + 1)), (by first | rfl | (simp; done) | (simp [*]; done)), H', ⟨by have := HK1.out; omega⟩, ⟨by (with_reducible repeat (first | apply Kd.R_alloc | apply Kd.R_drewN | apply Kd.R_drew)); exact HO177.out⟩, ⟨by (with_reducible repeat (first | refine blk_drewN ?_ _ | refine blk_drew ?_ | refine blk_alloc ?_ _)); exact BK167.out⟩, ⟨by repeat (first | (with_reducible first | exact HB.out | apply below_alloc | apply pw_below_drewN | apply below_drew1 | refine below_set ?_ GE167.out) | exact HB.out)⟩⟩
        · rw [if_neg c6] at H
          exact absurd H (by simp)
      · rw [if_neg c4] at H
        have c4b0 : decide (x7_1 < a0) = false := decide_eq_false c4
        clear c4
        obtain rfl := Option.some.inj H
        go_wp2
        go_ret
        exact ⟨_, by first | rfl | (simp <;> rfl) | (simp [*] <;> rfl), by (with_reducible repeat (first | apply Kd.R_alloc | apply Kd.R_drewN | apply Kd.R_drew)); exact HO_5.out, by repeat (first | (with_reducible first | exact HB.out | apply below_alloc | apply pw_below_drewN | apply below_drew1 | refine below_set ?_ GE167.out) | exact HB.out)⟩

/-! ### line_New: function 51 -/
def line_New.f (k : Nat) (a0 : Int) : Option ((List (S26))) := (line_length.f a0).bind fun t178 => ((line_blanks.f k t178 0 0 0).bind fun t179 => (some t179))
set_option maxHeartbeats 8000000 in
set_option maxRecDepth 100000 in
theorem line_New.calls (k : Nat) (a0 : Int) (r : List (S26)) (w : World) (h : line_New.f k a0 = some r) :
    Calls Try.prog 51 #[.int .i64 a0] w fun e w' => ∃ v0_ : Value, e = .returned (v0_) ∧ Kd.R k26 26 w' w.heap.size (fun _ => True) v0_ r ∧ Below w.heap.size w w' := by
  have hu24 := Try.underlying24
  have HB := Aside0.mk (Below.refl w.heap.size w)
  have H : ((line_length.f a0).bind fun t178 => ((line_blanks.f k t178 0 0 0).bind fun t179 => (some t179))) = some r := h
  clear h
  replace H := Option.bind_eq_some_iff.mp H
  obtain ⟨t178, A20, H⟩ := H
  replace H : ((line_blanks.f k t178 0 0 0).bind fun t179 => (some t179)) = some r := H
  have A2 := Aside0.mk A20
  clear A20
  replace H := Option.bind_eq_some_iff.mp H
  obtain ⟨t179, A30, H⟩ := H
  replace H : (some t179) = some r := H
  have A3 := Aside0.mk A30
  clear A30
  obtain rfl := Option.some.inj H
  go_enter Try.func51, Try.ntmps51
  go_wp2_with (first | ((with_reducible refine gate_callee (f := 98) rfl ?_); refine goesL_ (some 4) rfl rfl Try.func98 (by kernel_rfl) rfl #[.int .i64 a0] rfl (by (try simp only [List.map_toArray, List.map_cons, List.map_nil]); first | done | rfl | (simp only [List.length_drop, List.length_take]; rfl)) ?_; (with_reducible refine (line_length.calls a0 t178 _ A2.out).mono ?_); rintro e w4 ⟨rfl, hb⟩; refine ⟨_, rfl, ?_⟩; have n0_ := Aside0.mk (below_step (by repeat (first | (with_reducible first | exact HB.out | apply below_alloc | apply pw_below_drewN | apply below_drew1) | exact HB.out)) hb); clear HB; have HB := n0_; clear n0_; (try clear hb); (try clear hb2); (try clear hk); (try clear hi)) | ((with_reducible refine gate_callee (f := 99) rfl ?_); refine goesL_ (some 6) rfl rfl Try.func99 (by kernel_rfl) rfl #[.int .i64 t178, .agg #[.int .u8 0, .int .u8 0, .int .u8 0]] rfl (by (try simp only [List.map_toArray, List.map_cons, List.map_nil]); first | done | rfl | (simp only [List.length_drop, List.length_take]; rfl)) ?_; (with_reducible refine (line_blanks.calls k t178 0 0 0 t179 _ A3.out).mono ?_); rintro e w5 ⟨v180, rfl, ho0, hb⟩; refine ⟨_, rfl, ?_⟩; have n0_ := Aside0.mk (Kd.R_lower ho0 (below_size (by repeat (first | (with_reducible first | exact HB.out | apply below_alloc | apply pw_below_drewN | apply below_drew1) | exact HB.out)))); have n1_ := Aside0.mk (below_step (by repeat (first | (with_reducible first | exact HB.out | apply below_alloc | apply pw_below_drewN | apply below_drew1) | exact HB.out)) hb); clear HB; have HO181 := n0_; have HB := n1_; clear n0_ n1_; (try clear hb); (try clear hb2); (try clear hk); (try clear hi); (try clear ho0)))
  go_ret
  exact ⟨_, by first | rfl | (simp <;> rfl) | (simp [*] <;> rfl), by (with_reducible repeat (first | apply Kd.R_alloc | apply Kd.R_drewN | apply Kd.R_drew)); exact HO181.out, by repeat (first | (with_reducible first | exact HB.out | apply below_alloc | apply pw_below_drewN | apply below_drew1) | exact HB.out)⟩

/-! ### prolepsislaw06_knownB: function 41 -/
def prolepsislaw06_knownB.f (k : Nat)  : Option (Bool) := (cell_Of.f 12354 0 0 0).bind fun bt182 => ((cell_Of.f 97 0 0 0).bind fun bt191 => ((cell_Blank.f 0 0 0).bind fun bt200 => ((line_New.f k 4).bind fun t208 => ((line_Put.f k t208 1 bt182.1 bt182.2.1 bt182.2.2.1 bt182.2.2.2.1 bt182.2.2.2.2.1 bt182.2.2.2.2.2.1 bt182.2.2.2.2.2.2.1).bind fun bt211 => ((line_Put.f k bt211.1 2 bt191.1 bt191.2.1 bt191.2.2.1 bt191.2.2.2.1 bt191.2.2.2.2.1 bt191.2.2.2.2.2.1 bt191.2.2.2.2.2.2.1).bind fun bt215 => (if bt211.2 = true then ((cell_Rest.f bt182.1 bt182.2.1 bt182.2.2.1 bt182.2.2.2.1 bt182.2.2.2.2.1 bt182.2.2.2.2.2.1 bt182.2.2.2.2.2.2.1).bind fun bt219 => ((line_Same.f k bt211.1 (([(⟨bt200.1, (⟨bt200.2.1, bt200.2.2.1⟩ : S22), bt200.2.2.2.1, (⟨bt200.2.2.2.2.1, bt200.2.2.2.2.2.1, bt200.2.2.2.2.2.2⟩ : S24)⟩ : S26), (⟨bt182.1, (⟨bt182.2.1, bt182.2.2.1⟩ : S22), bt182.2.2.2.1, (⟨bt182.2.2.2.2.1, bt182.2.2.2.2.2.1, bt182.2.2.2.2.2.2.1⟩ : S24)⟩ : S26), (⟨bt219.1, (⟨bt219.2.1, bt219.2.2.1⟩ : S22), bt219.2.2.2.1, (⟨bt219.2.2.2.2.1, bt219.2.2.2.2.2.1, bt219.2.2.2.2.2.2⟩ : S24)⟩ : S26), (⟨bt200.1, (⟨bt200.2.1, bt200.2.2.1⟩ : S22), bt200.2.2.2.1, (⟨bt200.2.2.2.2.1, bt200.2.2.2.2.2.1, bt200.2.2.2.2.2.2⟩ : S24)⟩ : S26)] : List (S26)))).bind fun t229 => (if t229 = true then (if bt215.2 = true then ((line_Same.f k bt215.1 (([(⟨bt200.1, (⟨bt200.2.1, bt200.2.2.1⟩ : S22), bt200.2.2.2.1, (⟨bt200.2.2.2.2.1, bt200.2.2.2.2.2.1, bt200.2.2.2.2.2.2⟩ : S24)⟩ : S26), (⟨bt200.1, (⟨bt200.2.1, bt200.2.2.1⟩ : S22), bt200.2.2.2.1, (⟨bt200.2.2.2.2.1, bt200.2.2.2.2.2.1, bt200.2.2.2.2.2.2⟩ : S24)⟩ : S26), (⟨bt191.1, (⟨bt191.2.1, bt191.2.2.1⟩ : S22), bt191.2.2.2.1, (⟨bt191.2.2.2.2.1, bt191.2.2.2.2.2.1, bt191.2.2.2.2.2.2.1⟩ : S24)⟩ : S26), (⟨bt200.1, (⟨bt200.2.1, bt200.2.2.1⟩ : S22), bt200.2.2.2.1, (⟨bt200.2.2.2.2.1, bt200.2.2.2.2.2.1, bt200.2.2.2.2.2.2⟩ : S24)⟩ : S26)] : List (S26)))).bind fun t233 => (if t233 = true then (some (bt200.1 == 32)) else (some false))) else (some false)) else (some false)))) else (some false)))))))
def prolepsislaw06_knownB.T4 : Bool × List (List Nat × List Nat) := (true, [([], []), ([], []), ([0, 1, 0], [0, 1]), ([2], [2]), ([3], [3]), ([3], [3]), ([4, 2, 0, 1, 2, 3, 4], [4]), ([5, 6, 0, 1, 2, 3, 4, 5, 6], [5])])
def prolepsislaw06_knownB.B4 : List Nat := [0, 0, 3, 7, 15, 15, 31, 127]
theorem prolepsislaw06_knownB.tab4 : rtab .any (opsOf Try.f41 4) = prolepsislaw06_knownB.T4 := by kernel_rfl
theorem prolepsislaw06_knownB.bits4 : waitsOk prolepsislaw06_knownB.T4.2 prolepsislaw06_knownB.B4 = true := by kernel_rfl
def prolepsislaw06_knownB.T6 : Bool × List (List Nat × List Nat) := (true, [([], []), ([0], [0]), ([1], [1]), ([1], [1]), ([1], [1]), ([1], [1]), ([5, 1, 1], [1, 5]), ([1], [1]), ([3, 4, 6, 7, 1], [1, 3, 4, 6, 7]), ([2, 8, 6, 1], [1, 2, 8]), ([1, 9], [1, 9]), ([10, 9], [10]), ([11], [11]), ([11, 12], [11, 12]), ([13, 11], [13]), ([14], [14]), ([14], [14]), ([14], [14]), ([14], [14]), ([14], [14]), ([16, 17, 18, 19, 14], [14, 16, 17, 18, 19]), ([15, 20, 14, 14], [14, 15, 20]), ([14, 21], [14, 21]), ([22, 21], [22]), ([23], [23]), ([24, 23], [23, 24]), ([25, 23], [23, 25]), ([23, 26], [23, 26]), ([27, 23, 0, 1, 2, 3, 4, 5, 6, 7, 8, 9, 10, 11, 12, 13, 14, 15, 16, 17, 18, 19, 20, 21, 22, 23, 24, 25, 26, 27], [27])])
def prolepsislaw06_knownB.B6 : List Nat := [0, 1, 3, 3, 3, 3, 35, 3, 251, 511, 1023, 2047, 4095, 8191, 16383, 32767, 32767, 32767, 32767, 32767, 1015807, 2097151, 4194303, 8388607, 16777215, 33554431, 67108863, 134217727, 268435455]
theorem prolepsislaw06_knownB.tab6 : rtab .any (opsOf Try.f41 6) = prolepsislaw06_knownB.T6 := by kernel_rfl
theorem prolepsislaw06_knownB.bits6 : waitsOk prolepsislaw06_knownB.T6.2 prolepsislaw06_knownB.B6 = true := by kernel_rfl
set_option maxHeartbeats 8000000 in
set_option maxRecDepth 100000 in
theorem prolepsislaw06_knownB.calls (k : Nat)  (r : Bool) (w : World) (h : prolepsislaw06_knownB.f k  = some r) (hr : r = true) :
    Calls Try.prog 41 #[] w fun e w' => e = .returned (.bool r) ∧ Below w.heap.size w w' := by
  have HRT := Aside0.mk hr
  clear hr
  have hu24 := Try.underlying24
  have hu26 := Try.underlying26
  have HB := Aside0.mk (Below.refl w.heap.size w)
  have H : ((cell_Of.f 12354 0 0 0).bind fun bt182 => ((cell_Of.f 97 0 0 0).bind fun bt191 => ((cell_Blank.f 0 0 0).bind fun bt200 => ((line_New.f k 4).bind fun t208 => ((line_Put.f k t208 1 bt182.1 bt182.2.1 bt182.2.2.1 bt182.2.2.2.1 bt182.2.2.2.2.1 bt182.2.2.2.2.2.1 bt182.2.2.2.2.2.2.1).bind fun bt211 => ((line_Put.f k bt211.1 2 bt191.1 bt191.2.1 bt191.2.2.1 bt191.2.2.2.1 bt191.2.2.2.2.1 bt191.2.2.2.2.2.1 bt191.2.2.2.2.2.2.1).bind fun bt215 => (if bt211.2 = true then ((cell_Rest.f bt182.1 bt182.2.1 bt182.2.2.1 bt182.2.2.2.1 bt182.2.2.2.2.1 bt182.2.2.2.2.2.1 bt182.2.2.2.2.2.2.1).bind fun bt219 => ((line_Same.f k bt211.1 (([(⟨bt200.1, (⟨bt200.2.1, bt200.2.2.1⟩ : S22), bt200.2.2.2.1, (⟨bt200.2.2.2.2.1, bt200.2.2.2.2.2.1, bt200.2.2.2.2.2.2⟩ : S24)⟩ : S26), (⟨bt182.1, (⟨bt182.2.1, bt182.2.2.1⟩ : S22), bt182.2.2.2.1, (⟨bt182.2.2.2.2.1, bt182.2.2.2.2.2.1, bt182.2.2.2.2.2.2.1⟩ : S24)⟩ : S26), (⟨bt219.1, (⟨bt219.2.1, bt219.2.2.1⟩ : S22), bt219.2.2.2.1, (⟨bt219.2.2.2.2.1, bt219.2.2.2.2.2.1, bt219.2.2.2.2.2.2⟩ : S24)⟩ : S26), (⟨bt200.1, (⟨bt200.2.1, bt200.2.2.1⟩ : S22), bt200.2.2.2.1, (⟨bt200.2.2.2.2.1, bt200.2.2.2.2.2.1, bt200.2.2.2.2.2.2⟩ : S24)⟩ : S26)] : List (S26)))).bind fun t229 => (if t229 = true then (if bt215.2 = true then ((line_Same.f k bt215.1 (([(⟨bt200.1, (⟨bt200.2.1, bt200.2.2.1⟩ : S22), bt200.2.2.2.1, (⟨bt200.2.2.2.2.1, bt200.2.2.2.2.2.1, bt200.2.2.2.2.2.2⟩ : S24)⟩ : S26), (⟨bt200.1, (⟨bt200.2.1, bt200.2.2.1⟩ : S22), bt200.2.2.2.1, (⟨bt200.2.2.2.2.1, bt200.2.2.2.2.2.1, bt200.2.2.2.2.2.2⟩ : S24)⟩ : S26), (⟨bt191.1, (⟨bt191.2.1, bt191.2.2.1⟩ : S22), bt191.2.2.2.1, (⟨bt191.2.2.2.2.1, bt191.2.2.2.2.2.1, bt191.2.2.2.2.2.2.1⟩ : S24)⟩ : S26), (⟨bt200.1, (⟨bt200.2.1, bt200.2.2.1⟩ : S22), bt200.2.2.2.1, (⟨bt200.2.2.2.2.1, bt200.2.2.2.2.2.1, bt200.2.2.2.2.2.2⟩ : S24)⟩ : S26)] : List (S26)))).bind fun t233 => (if t233 = true then (some (bt200.1 == 32)) else (some false))) else (some false)) else (some false)))) else (some false)))))))) = some r := h
  clear h
  replace H := Option.bind_eq_some_iff.mp H
  obtain ⟨⟨t182, t183, t184, t185, t186, t187, t188, t189⟩, A10, H⟩ := H
  replace H : ((cell_Of.f 97 0 0 0).bind fun bt191 => ((cell_Blank.f 0 0 0).bind fun bt200 => ((line_New.f k 4).bind fun t208 => ((line_Put.f k t208 1 t182 t183 t184 t185 t186 t187 t188).bind fun bt211 => ((line_Put.f k bt211.1 2 bt191.1 bt191.2.1 bt191.2.2.1 bt191.2.2.2.1 bt191.2.2.2.2.1 bt191.2.2.2.2.2.1 bt191.2.2.2.2.2.2.1).bind fun bt215 => (if bt211.2 = true then ((cell_Rest.f t182 t183 t184 t185 t186 t187 t188).bind fun bt219 => ((line_Same.f k bt211.1 (([(⟨bt200.1, (⟨bt200.2.1, bt200.2.2.1⟩ : S22), bt200.2.2.2.1, (⟨bt200.2.2.2.2.1, bt200.2.2.2.2.2.1, bt200.2.2.2.2.2.2⟩ : S24)⟩ : S26), (⟨t182, (⟨t183, t184⟩ : S22), t185, (⟨t186, t187, t188⟩ : S24)⟩ : S26), (⟨bt219.1, (⟨bt219.2.1, bt219.2.2.1⟩ : S22), bt219.2.2.2.1, (⟨bt219.2.2.2.2.1, bt219.2.2.2.2.2.1, bt219.2.2.2.2.2.2⟩ : S24)⟩ : S26), (⟨bt200.1, (⟨bt200.2.1, bt200.2.2.1⟩ : S22), bt200.2.2.2.1, (⟨bt200.2.2.2.2.1, bt200.2.2.2.2.2.1, bt200.2.2.2.2.2.2⟩ : S24)⟩ : S26)] : List (S26)))).bind fun t229 => (if t229 = true then (if bt215.2 = true then ((line_Same.f k bt215.1 (([(⟨bt200.1, (⟨bt200.2.1, bt200.2.2.1⟩ : S22), bt200.2.2.2.1, (⟨bt200.2.2.2.2.1, bt200.2.2.2.2.2.1, bt200.2.2.2.2.2.2⟩ : S24)⟩ : S26), (⟨bt200.1, (⟨bt200.2.1, bt200.2.2.1⟩ : S22), bt200.2.2.2.1, (⟨bt200.2.2.2.2.1, bt200.2.2.2.2.2.1, bt200.2.2.2.2.2.2⟩ : S24)⟩ : S26), (⟨bt191.1, (⟨bt191.2.1, bt191.2.2.1⟩ : S22), bt191.2.2.2.1, (⟨bt191.2.2.2.2.1, bt191.2.2.2.2.2.1, bt191.2.2.2.2.2.2.1⟩ : S24)⟩ : S26), (⟨bt200.1, (⟨bt200.2.1, bt200.2.2.1⟩ : S22), bt200.2.2.2.1, (⟨bt200.2.2.2.2.1, bt200.2.2.2.2.2.1, bt200.2.2.2.2.2.2⟩ : S24)⟩ : S26)] : List (S26)))).bind fun t233 => (if t233 = true then (some (bt200.1 == 32)) else (some false))) else (some false)) else (some false)))) else (some false))))))) = some r := H
  have A1 := Aside0.mk A10
  clear A10
  replace H := Option.bind_eq_some_iff.mp H
  obtain ⟨⟨t191, t192, t193, t194, t195, t196, t197, t198⟩, A20, H⟩ := H
  replace H : ((cell_Blank.f 0 0 0).bind fun bt200 => ((line_New.f k 4).bind fun t208 => ((line_Put.f k t208 1 t182 t183 t184 t185 t186 t187 t188).bind fun bt211 => ((line_Put.f k bt211.1 2 t191 t192 t193 t194 t195 t196 t197).bind fun bt215 => (if bt211.2 = true then ((cell_Rest.f t182 t183 t184 t185 t186 t187 t188).bind fun bt219 => ((line_Same.f k bt211.1 (([(⟨bt200.1, (⟨bt200.2.1, bt200.2.2.1⟩ : S22), bt200.2.2.2.1, (⟨bt200.2.2.2.2.1, bt200.2.2.2.2.2.1, bt200.2.2.2.2.2.2⟩ : S24)⟩ : S26), (⟨t182, (⟨t183, t184⟩ : S22), t185, (⟨t186, t187, t188⟩ : S24)⟩ : S26), (⟨bt219.1, (⟨bt219.2.1, bt219.2.2.1⟩ : S22), bt219.2.2.2.1, (⟨bt219.2.2.2.2.1, bt219.2.2.2.2.2.1, bt219.2.2.2.2.2.2⟩ : S24)⟩ : S26), (⟨bt200.1, (⟨bt200.2.1, bt200.2.2.1⟩ : S22), bt200.2.2.2.1, (⟨bt200.2.2.2.2.1, bt200.2.2.2.2.2.1, bt200.2.2.2.2.2.2⟩ : S24)⟩ : S26)] : List (S26)))).bind fun t229 => (if t229 = true then (if bt215.2 = true then ((line_Same.f k bt215.1 (([(⟨bt200.1, (⟨bt200.2.1, bt200.2.2.1⟩ : S22), bt200.2.2.2.1, (⟨bt200.2.2.2.2.1, bt200.2.2.2.2.2.1, bt200.2.2.2.2.2.2⟩ : S24)⟩ : S26), (⟨bt200.1, (⟨bt200.2.1, bt200.2.2.1⟩ : S22), bt200.2.2.2.1, (⟨bt200.2.2.2.2.1, bt200.2.2.2.2.2.1, bt200.2.2.2.2.2.2⟩ : S24)⟩ : S26), (⟨t191, (⟨t192, t193⟩ : S22), t194, (⟨t195, t196, t197⟩ : S24)⟩ : S26), (⟨bt200.1, (⟨bt200.2.1, bt200.2.2.1⟩ : S22), bt200.2.2.2.1, (⟨bt200.2.2.2.2.1, bt200.2.2.2.2.2.1, bt200.2.2.2.2.2.2⟩ : S24)⟩ : S26)] : List (S26)))).bind fun t233 => (if t233 = true then (some (bt200.1 == 32)) else (some false))) else (some false)) else (some false)))) else (some false)))))) = some r := H
  have A2 := Aside0.mk A20
  clear A20
  replace H := Option.bind_eq_some_iff.mp H
  obtain ⟨⟨t200, t201, t202, t203, t204, t205, t206⟩, A30, H⟩ := H
  replace H : ((line_New.f k 4).bind fun t208 => ((line_Put.f k t208 1 t182 t183 t184 t185 t186 t187 t188).bind fun bt211 => ((line_Put.f k bt211.1 2 t191 t192 t193 t194 t195 t196 t197).bind fun bt215 => (if bt211.2 = true then ((cell_Rest.f t182 t183 t184 t185 t186 t187 t188).bind fun bt219 => ((line_Same.f k bt211.1 (([(⟨t200, (⟨t201, t202⟩ : S22), t203, (⟨t204, t205, t206⟩ : S24)⟩ : S26), (⟨t182, (⟨t183, t184⟩ : S22), t185, (⟨t186, t187, t188⟩ : S24)⟩ : S26), (⟨bt219.1, (⟨bt219.2.1, bt219.2.2.1⟩ : S22), bt219.2.2.2.1, (⟨bt219.2.2.2.2.1, bt219.2.2.2.2.2.1, bt219.2.2.2.2.2.2⟩ : S24)⟩ : S26), (⟨t200, (⟨t201, t202⟩ : S22), t203, (⟨t204, t205, t206⟩ : S24)⟩ : S26)] : List (S26)))).bind fun t229 => (if t229 = true then (if bt215.2 = true then ((line_Same.f k bt215.1 (([(⟨t200, (⟨t201, t202⟩ : S22), t203, (⟨t204, t205, t206⟩ : S24)⟩ : S26), (⟨t200, (⟨t201, t202⟩ : S22), t203, (⟨t204, t205, t206⟩ : S24)⟩ : S26), (⟨t191, (⟨t192, t193⟩ : S22), t194, (⟨t195, t196, t197⟩ : S24)⟩ : S26), (⟨t200, (⟨t201, t202⟩ : S22), t203, (⟨t204, t205, t206⟩ : S24)⟩ : S26)] : List (S26)))).bind fun t233 => (if t233 = true then (some (t200 == 32)) else (some false))) else (some false)) else (some false)))) else (some false))))) = some r := H
  have A3 := Aside0.mk A30
  clear A30
  replace H := Option.bind_eq_some_iff.mp H
  obtain ⟨t208, A40, H⟩ := H
  replace H : ((line_Put.f k t208 1 t182 t183 t184 t185 t186 t187 t188).bind fun bt211 => ((line_Put.f k bt211.1 2 t191 t192 t193 t194 t195 t196 t197).bind fun bt215 => (if bt211.2 = true then ((cell_Rest.f t182 t183 t184 t185 t186 t187 t188).bind fun bt219 => ((line_Same.f k bt211.1 (([(⟨t200, (⟨t201, t202⟩ : S22), t203, (⟨t204, t205, t206⟩ : S24)⟩ : S26), (⟨t182, (⟨t183, t184⟩ : S22), t185, (⟨t186, t187, t188⟩ : S24)⟩ : S26), (⟨bt219.1, (⟨bt219.2.1, bt219.2.2.1⟩ : S22), bt219.2.2.2.1, (⟨bt219.2.2.2.2.1, bt219.2.2.2.2.2.1, bt219.2.2.2.2.2.2⟩ : S24)⟩ : S26), (⟨t200, (⟨t201, t202⟩ : S22), t203, (⟨t204, t205, t206⟩ : S24)⟩ : S26)] : List (S26)))).bind fun t229 => (if t229 = true then (if bt215.2 = true then ((line_Same.f k bt215.1 (([(⟨t200, (⟨t201, t202⟩ : S22), t203, (⟨t204, t205, t206⟩ : S24)⟩ : S26), (⟨t200, (⟨t201, t202⟩ : S22), t203, (⟨t204, t205, t206⟩ : S24)⟩ : S26), (⟨t191, (⟨t192, t193⟩ : S22), t194, (⟨t195, t196, t197⟩ : S24)⟩ : S26), (⟨t200, (⟨t201, t202⟩ : S22), t203, (⟨t204, t205, t206⟩ : S24)⟩ : S26)] : List (S26)))).bind fun t233 => (if t233 = true then (some (t200 == 32)) else (some false))) else (some false)) else (some false)))) else (some false)))) = some r := H
  have A4 := Aside0.mk A40
  clear A40
  replace H := Option.bind_eq_some_iff.mp H
  obtain ⟨⟨t211, t214⟩, A50, H⟩ := H
  replace H : ((line_Put.f k t211 2 t191 t192 t193 t194 t195 t196 t197).bind fun bt215 => (if t214 = true then ((cell_Rest.f t182 t183 t184 t185 t186 t187 t188).bind fun bt219 => ((line_Same.f k t211 (([(⟨t200, (⟨t201, t202⟩ : S22), t203, (⟨t204, t205, t206⟩ : S24)⟩ : S26), (⟨t182, (⟨t183, t184⟩ : S22), t185, (⟨t186, t187, t188⟩ : S24)⟩ : S26), (⟨bt219.1, (⟨bt219.2.1, bt219.2.2.1⟩ : S22), bt219.2.2.2.1, (⟨bt219.2.2.2.2.1, bt219.2.2.2.2.2.1, bt219.2.2.2.2.2.2⟩ : S24)⟩ : S26), (⟨t200, (⟨t201, t202⟩ : S22), t203, (⟨t204, t205, t206⟩ : S24)⟩ : S26)] : List (S26)))).bind fun t229 => (if t229 = true then (if bt215.2 = true then ((line_Same.f k bt215.1 (([(⟨t200, (⟨t201, t202⟩ : S22), t203, (⟨t204, t205, t206⟩ : S24)⟩ : S26), (⟨t200, (⟨t201, t202⟩ : S22), t203, (⟨t204, t205, t206⟩ : S24)⟩ : S26), (⟨t191, (⟨t192, t193⟩ : S22), t194, (⟨t195, t196, t197⟩ : S24)⟩ : S26), (⟨t200, (⟨t201, t202⟩ : S22), t203, (⟨t204, t205, t206⟩ : S24)⟩ : S26)] : List (S26)))).bind fun t233 => (if t233 = true then (some (t200 == 32)) else (some false))) else (some false)) else (some false)))) else (some false))) = some r := H
  have A5 := Aside0.mk A50
  clear A50
  replace H := Option.bind_eq_some_iff.mp H
  obtain ⟨⟨t215, t218⟩, A60, H⟩ := H
  replace H : (if t214 = true then ((cell_Rest.f t182 t183 t184 t185 t186 t187 t188).bind fun bt219 => ((line_Same.f k t211 (([(⟨t200, (⟨t201, t202⟩ : S22), t203, (⟨t204, t205, t206⟩ : S24)⟩ : S26), (⟨t182, (⟨t183, t184⟩ : S22), t185, (⟨t186, t187, t188⟩ : S24)⟩ : S26), (⟨bt219.1, (⟨bt219.2.1, bt219.2.2.1⟩ : S22), bt219.2.2.2.1, (⟨bt219.2.2.2.2.1, bt219.2.2.2.2.2.1, bt219.2.2.2.2.2.2⟩ : S24)⟩ : S26), (⟨t200, (⟨t201, t202⟩ : S22), t203, (⟨t204, t205, t206⟩ : S24)⟩ : S26)] : List (S26)))).bind fun t229 => (if t229 = true then (if t218 = true then ((line_Same.f k t215 (([(⟨t200, (⟨t201, t202⟩ : S22), t203, (⟨t204, t205, t206⟩ : S24)⟩ : S26), (⟨t200, (⟨t201, t202⟩ : S22), t203, (⟨t204, t205, t206⟩ : S24)⟩ : S26), (⟨t191, (⟨t192, t193⟩ : S22), t194, (⟨t195, t196, t197⟩ : S24)⟩ : S26), (⟨t200, (⟨t201, t202⟩ : S22), t203, (⟨t204, t205, t206⟩ : S24)⟩ : S26)] : List (S26)))).bind fun t233 => (if t233 = true then (some (t200 == 32)) else (some false))) else (some false)) else (some false)))) else (some false)) = some r := H
  have A6 := Aside0.mk A60
  clear A60
  by_cases c7 : t214 = true
  · subst c7
    have H1 : ((cell_Rest.f t182 t183 t184 t185 t186 t187 t188).bind fun bt219 => ((line_Same.f k t211 (([(⟨t200, (⟨t201, t202⟩ : S22), t203, (⟨t204, t205, t206⟩ : S24)⟩ : S26), (⟨t182, (⟨t183, t184⟩ : S22), t185, (⟨t186, t187, t188⟩ : S24)⟩ : S26), (⟨bt219.1, (⟨bt219.2.1, bt219.2.2.1⟩ : S22), bt219.2.2.2.1, (⟨bt219.2.2.2.2.1, bt219.2.2.2.2.2.1, bt219.2.2.2.2.2.2⟩ : S24)⟩ : S26), (⟨t200, (⟨t201, t202⟩ : S22), t203, (⟨t204, t205, t206⟩ : S24)⟩ : S26)] : List (S26)))).bind fun t229 => (if t229 = true then (if t218 = true then ((line_Same.f k t215 (([(⟨t200, (⟨t201, t202⟩ : S22), t203, (⟨t204, t205, t206⟩ : S24)⟩ : S26), (⟨t200, (⟨t201, t202⟩ : S22), t203, (⟨t204, t205, t206⟩ : S24)⟩ : S26), (⟨t191, (⟨t192, t193⟩ : S22), t194, (⟨t195, t196, t197⟩ : S24)⟩ : S26), (⟨t200, (⟨t201, t202⟩ : S22), t203, (⟨t204, t205, t206⟩ : S24)⟩ : S26)] : List (S26)))).bind fun t233 => (if t233 = true then (some (t200 == 32)) else (some false))) else (some false)) else (some false)))) = some r := by rw [if_pos rfl] at H; exact H
    clear H
    have H := H1
    clear H1
    replace H := Option.bind_eq_some_iff.mp H
    obtain ⟨⟨t219, t220, t221, t222, t223, t224, t225⟩, A80, H⟩ := H
    replace H : ((line_Same.f k t211 (([(⟨t200, (⟨t201, t202⟩ : S22), t203, (⟨t204, t205, t206⟩ : S24)⟩ : S26), (⟨t182, (⟨t183, t184⟩ : S22), t185, (⟨t186, t187, t188⟩ : S24)⟩ : S26), (⟨t219, (⟨t220, t221⟩ : S22), t222, (⟨t223, t224, t225⟩ : S24)⟩ : S26), (⟨t200, (⟨t201, t202⟩ : S22), t203, (⟨t204, t205, t206⟩ : S24)⟩ : S26)] : List (S26)))).bind fun t229 => (if t229 = true then (if t218 = true then ((line_Same.f k t215 (([(⟨t200, (⟨t201, t202⟩ : S22), t203, (⟨t204, t205, t206⟩ : S24)⟩ : S26), (⟨t200, (⟨t201, t202⟩ : S22), t203, (⟨t204, t205, t206⟩ : S24)⟩ : S26), (⟨t191, (⟨t192, t193⟩ : S22), t194, (⟨t195, t196, t197⟩ : S24)⟩ : S26), (⟨t200, (⟨t201, t202⟩ : S22), t203, (⟨t204, t205, t206⟩ : S24)⟩ : S26)] : List (S26)))).bind fun t233 => (if t233 = true then (some (t200 == 32)) else (some false))) else (some false)) else (some false))) = some r := H
    have A8 := Aside0.mk A80
    clear A80
    obtain ⟨y226, hy226⟩ : ∃ y_ : List (S26), y_ = (([(⟨t200, (⟨t201, t202⟩ : S22), t203, (⟨t204, t205, t206⟩ : S24)⟩ : S26), (⟨t182, (⟨t183, t184⟩ : S22), t185, (⟨t186, t187, t188⟩ : S24)⟩ : S26), (⟨t219, (⟨t220, t221⟩ : S22), t222, (⟨t223, t224, t225⟩ : S24)⟩ : S26), (⟨t200, (⟨t201, t202⟩ : S22), t203, (⟨t204, t205, t206⟩ : S24)⟩ : S26)] : List (S26))) := ⟨_, rfl⟩
    replace H : ((line_Same.f k t211 y226).bind fun t229 => (if t229 = true then (if t218 = true then ((line_Same.f k t215 (([(⟨t200, (⟨t201, t202⟩ : S22), t203, (⟨t204, t205, t206⟩ : S24)⟩ : S26), (⟨t200, (⟨t201, t202⟩ : S22), t203, (⟨t204, t205, t206⟩ : S24)⟩ : S26), (⟨t191, (⟨t192, t193⟩ : S22), t194, (⟨t195, t196, t197⟩ : S24)⟩ : S26), (⟨t200, (⟨t201, t202⟩ : S22), t203, (⟨t204, t205, t206⟩ : S24)⟩ : S26)] : List (S26)))).bind fun t233 => (if t233 = true then (some (t200 == 32)) else (some false))) else (some false)) else (some false))) = some r := by first | (rw [hy226]; with_reducible exact H) | (have H2_ := (Option.bind_some _ _).symm.trans H; rw [hy226]; with_reducible exact H2_) | (have H2_ := (Option.bind_some _ _).symm.trans H; with_reducible exact H2_) | with_reducible exact H | (rw [hy226]; exact H) | exact H
    have Ny226 := Aside0.mk hy226
    clear hy226
    replace H := Option.bind_eq_some_iff.mp H
    obtain ⟨t229, A90, H⟩ := H
    replace H : (if t229 = true then (if t218 = true then ((line_Same.f k t215 (([(⟨t200, (⟨t201, t202⟩ : S22), t203, (⟨t204, t205, t206⟩ : S24)⟩ : S26), (⟨t200, (⟨t201, t202⟩ : S22), t203, (⟨t204, t205, t206⟩ : S24)⟩ : S26), (⟨t191, (⟨t192, t193⟩ : S22), t194, (⟨t195, t196, t197⟩ : S24)⟩ : S26), (⟨t200, (⟨t201, t202⟩ : S22), t203, (⟨t204, t205, t206⟩ : S24)⟩ : S26)] : List (S26)))).bind fun t233 => (if t233 = true then (some (t200 == 32)) else (some false))) else (some false)) else (some false)) = some r := H
    have A9 := Aside0.mk A90
    clear A90
    by_cases c10 : t229 = true
    · subst c10
      have H1 : (if t218 = true then ((line_Same.f k t215 (([(⟨t200, (⟨t201, t202⟩ : S22), t203, (⟨t204, t205, t206⟩ : S24)⟩ : S26), (⟨t200, (⟨t201, t202⟩ : S22), t203, (⟨t204, t205, t206⟩ : S24)⟩ : S26), (⟨t191, (⟨t192, t193⟩ : S22), t194, (⟨t195, t196, t197⟩ : S24)⟩ : S26), (⟨t200, (⟨t201, t202⟩ : S22), t203, (⟨t204, t205, t206⟩ : S24)⟩ : S26)] : List (S26)))).bind fun t233 => (if t233 = true then (some (t200 == 32)) else (some false))) else (some false)) = some r := by rw [if_pos rfl] at H; exact H
      clear H
      have H := H1
      clear H1
      by_cases c11 : t218 = true
      · subst c11
        have H1 : ((line_Same.f k t215 (([(⟨t200, (⟨t201, t202⟩ : S22), t203, (⟨t204, t205, t206⟩ : S24)⟩ : S26), (⟨t200, (⟨t201, t202⟩ : S22), t203, (⟨t204, t205, t206⟩ : S24)⟩ : S26), (⟨t191, (⟨t192, t193⟩ : S22), t194, (⟨t195, t196, t197⟩ : S24)⟩ : S26), (⟨t200, (⟨t201, t202⟩ : S22), t203, (⟨t204, t205, t206⟩ : S24)⟩ : S26)] : List (S26)))).bind fun t233 => (if t233 = true then (some (t200 == 32)) else (some false))) = some r := by rw [if_pos rfl] at H; exact H
        clear H
        have H := H1
        clear H1
        obtain ⟨y230, hy230⟩ : ∃ y_ : List (S26), y_ = (([(⟨t200, (⟨t201, t202⟩ : S22), t203, (⟨t204, t205, t206⟩ : S24)⟩ : S26), (⟨t200, (⟨t201, t202⟩ : S22), t203, (⟨t204, t205, t206⟩ : S24)⟩ : S26), (⟨t191, (⟨t192, t193⟩ : S22), t194, (⟨t195, t196, t197⟩ : S24)⟩ : S26), (⟨t200, (⟨t201, t202⟩ : S22), t203, (⟨t204, t205, t206⟩ : S24)⟩ : S26)] : List (S26))) := ⟨_, rfl⟩
        replace H : ((line_Same.f k t215 y230).bind fun t233 => (if t233 = true then (some (t200 == 32)) else (some false))) = some r := by first | (rw [hy230]; with_reducible exact H) | (have H2_ := (Option.bind_some _ _).symm.trans H; rw [hy230]; with_reducible exact H2_) | (have H2_ := (Option.bind_some _ _).symm.trans H; with_reducible exact H2_) | with_reducible exact H | (rw [hy230]; exact H) | exact H
        have Ny230 := Aside0.mk hy230
        clear hy230
        replace H := Option.bind_eq_some_iff.mp H
        obtain ⟨t233, A120, H⟩ := H
        replace H : (if t233 = true then (some (t200 == 32)) else (some false)) = some r := H
        have A12 := Aside0.mk A120
        clear A120
        by_cases c13 : t233 = true
        · subst c13
          have H1 : (some (t200 == 32)) = some r := by rw [if_pos rfl] at H; exact H
          clear H
          have H := H1
          clear H1
          obtain rfl := Option.some.inj H
          go_enter Try.func41, Try.ntmps41
          try go_wp2_with (first | ((with_reducible refine gate_callee (f := 14) rfl ?_); refine goesL_ (some 12) rfl rfl Try.func14 (by kernel_rfl) rfl #[.int .i32 12354, .agg #[.int .u8 0, .int .u8 0, .int .u8 0]] rfl (by (try simp only [List.map_toArray, List.map_cons, List.map_nil]); first | done | rfl | (simp only [List.length_drop, List.length_take]; rfl)) ?_; (with_reducible refine (cell_Of.calls 12354 0 0 0 t182 t183 t184 t185 t186 t187 t188 t189 _ A1.out).mono ?_); rintro e w14 ⟨rfl, hb⟩; refine ⟨_, rfl, ?_⟩; have n0_ := Aside0.mk (below_step (by repeat (first | (with_reducible first | exact HB.out | apply below_alloc | apply pw_below_drewN | apply below_drew1) | exact HB.out)) hb); clear HB; have HB := n0_; clear n0_; (try clear hb); (try clear hb2); (try clear hk); (try clear hi)) | ((with_reducible refine gate_dst (N := 1) rfl ?_); (try (refine gate_guard (by rfl) ?_; dsimp only)); refine box_event ?hg (N := 1) ?hd (cs := #[.int .i32 0, .int .i32 0, .int .i32 0, .int .u8 0, .int .u8 0, .int .u8 0, .int .u8 0]) (t := 26) ?hr ?_; (case hd => rfl); (case hg => rfl); (case hr => first | (go_simp; done) | (go_simp; rfl)); intro gb190 hg w15 hbox hb; have n0_ := Aside0.mk (below_step (by repeat (first | (with_reducible first | exact HB.out | apply below_alloc | apply pw_below_drewN | apply below_drew1) | exact HB.out)) hb); have n1_ := Aside0.mk (hbox); have n2_ := Aside0.mk ((by rw [hg]; exact (below_size (by repeat (first | (with_reducible first | exact HB.out | apply below_alloc | apply pw_below_drewN | apply below_drew1) | exact HB.out))) : w.heap.size ≤ gb190)); have n3_ := Aside0.mk ((by rw [hg]; exact (below_size (by repeat (first | (with_reducible first | exact HB.out | apply below_alloc | apply pw_below_drewN | apply below_drew1) | exact HB.out))) : w.heap.size ≤ gb190)); clear HB; have HB := n0_; have BK190 := n1_; have GW190 := n2_; have GE190 := n3_; clear n0_ n1_ n2_ n3_; clear hb hbox hg; have hcz16_0 : w15.cell? ⟨gb190, 0, none⟩ = some (.int .i32 0) := (blk_cell BK190.out 0).trans rfl; have hcz16_1 : w15.cell? ⟨gb190, 1, none⟩ = some (.int .i32 0) := (blk_cell BK190.out 1).trans rfl; have hcz16_2 : w15.cell? ⟨gb190, 2, none⟩ = some (.int .i32 0) := (blk_cell BK190.out 2).trans rfl; have hcz16_3 : w15.cell? ⟨gb190, 3, none⟩ = some (.int .u8 0) := (blk_cell BK190.out 3).trans rfl; have hcz16_4 : w15.cell? ⟨gb190, 4, none⟩ = some (.int .u8 0) := (blk_cell BK190.out 4).trans rfl; have hcz16_5 : w15.cell? ⟨gb190, 5, none⟩ = some (.int .u8 0) := (blk_cell BK190.out 5).trans rfl; have hcz16_6 : w15.cell? ⟨gb190, 6, none⟩ = some (.int .u8 0) := (blk_cell BK190.out 6).trans rfl; have hfz16_0 := blk_frozen BK190.out 0; have hfz16_1 := blk_frozen BK190.out 1; have hfz16_2 := blk_frozen BK190.out 2; have hfz16_3 := blk_frozen BK190.out 3; have hfz16_4 := blk_frozen BK190.out 4; have hfz16_5 := blk_frozen BK190.out 5; have hfz16_6 := blk_frozen BK190.out 6) | ((with_reducible refine gate_callee (f := 14) rfl ?_); refine goesL_ (some 17) rfl rfl Try.func14 (by kernel_rfl) rfl #[.int .i32 97, .agg #[.int .u8 0, .int .u8 0, .int .u8 0]] rfl (by (try simp only [List.map_toArray, List.map_cons, List.map_nil]); first | done | rfl | (simp only [List.length_drop, List.length_take]; rfl)) ?_; (with_reducible refine (cell_Of.calls 97 0 0 0 t191 t192 t193 t194 t195 t196 t197 t198 _ A2.out).mono ?_); rintro e w17 ⟨rfl, hb⟩; refine ⟨_, rfl, ?_⟩; have n0_ := Aside0.mk (blk_below (g := gb190) (o := .cells #[.int .i32 t182, .int .i32 t183, .int .i32 t184, .int .u8 t185, .int .u8 t186, .int .u8 t187, .int .u8 t188] 26 (0, 0)) (by (with_reducible repeat (first | refine blk_drewN ?_ _ | refine blk_drew ?_ | refine blk_alloc ?_ _)); refine blk_put (cs := #[.int .i32 t182, .int .i32 t183, .int .i32 t184, .int .u8 t185, .int .u8 t186, .int .u8 t187, .int .u8 0]) ?_ 6 _ rfl; (with_reducible repeat (first | refine blk_drewN ?_ _ | refine blk_drew ?_ | refine blk_alloc ?_ _)); refine blk_put (cs := #[.int .i32 t182, .int .i32 t183, .int .i32 t184, .int .u8 t185, .int .u8 t186, .int .u8 0, .int .u8 0]) ?_ 5 _ rfl; (with_reducible repeat (first | refine blk_drewN ?_ _ | refine blk_drew ?_ | refine blk_alloc ?_ _)); refine blk_put (cs := #[.int .i32 t182, .int .i32 t183, .int .i32 t184, .int .u8 t185, .int .u8 0, .int .u8 0, .int .u8 0]) ?_ 4 _ rfl; (with_reducible repeat (first | refine blk_drewN ?_ _ | refine blk_drew ?_ | refine blk_alloc ?_ _)); refine blk_put (cs := #[.int .i32 t182, .int .i32 t183, .int .i32 t184, .int .u8 0, .int .u8 0, .int .u8 0, .int .u8 0]) ?_ 3 _ rfl; (with_reducible repeat (first | refine blk_drewN ?_ _ | refine blk_drew ?_ | refine blk_alloc ?_ _)); refine blk_put (cs := #[.int .i32 t182, .int .i32 t183, .int .i32 0, .int .u8 0, .int .u8 0, .int .u8 0, .int .u8 0]) ?_ 2 _ rfl; (with_reducible repeat (first | refine blk_drewN ?_ _ | refine blk_drew ?_ | refine blk_alloc ?_ _)); refine blk_put (cs := #[.int .i32 t182, .int .i32 0, .int .i32 0, .int .u8 0, .int .u8 0, .int .u8 0, .int .u8 0]) ?_ 1 _ rfl; (with_reducible repeat (first | refine blk_drewN ?_ _ | refine blk_drew ?_ | refine blk_alloc ?_ _)); refine blk_put (cs := #[.int .i32 0, .int .i32 0, .int .i32 0, .int .u8 0, .int .u8 0, .int .u8 0, .int .u8 0]) ?_ 0 _ rfl; (with_reducible repeat (first | refine blk_drewN ?_ _ | refine blk_drew ?_ | refine blk_alloc ?_ _)); exact BK190.out) hb); have n1_ := Aside0.mk (below_step (by repeat (first | (with_reducible first | exact HB.out | apply below_alloc | apply pw_below_drewN | apply below_drew1 | refine below_set ?_ GE190.out) | exact HB.out)) hb); clear BK190; clear HB; have BK190 := n0_; have HB := n1_; clear n0_ n1_; (try clear hb); (try clear hb2); (try clear hk); (try clear hi)) | ((with_reducible refine gate_dst (N := 3) rfl ?_); (try (refine gate_guard (by rfl) ?_; dsimp only)); refine box_event ?hg (N := 3) ?hd (cs := #[.int .i32 0, .int .i32 0, .int .i32 0, .int .u8 0, .int .u8 0, .int .u8 0, .int .u8 0]) (t := 26) ?hr ?_; (case hd => rfl); (case hg => rfl); (case hr => first | (go_simp; done) | (go_simp; rfl)); intro gb199 hg w18 hbox hb; have n0_ := Aside0.mk (blk_below (g := gb190) (o := .cells #[.int .i32 t182, .int .i32 t183, .int .i32 t184, .int .u8 t185, .int .u8 t186, .int .u8 t187, .int .u8 t188] 26 (0, 0)) (by (with_reducible repeat (first | refine blk_drewN ?_ _ | refine blk_drew ?_ | refine blk_alloc ?_ _)); exact BK190.out) hb); have n1_ := Aside0.mk (below_step (by repeat (first | (with_reducible first | exact HB.out | apply below_alloc | apply pw_below_drewN | apply below_drew1 | refine below_set ?_ GE190.out) | exact HB.out)) hb); have n2_ := Aside0.mk (hbox); have n3_ := Aside0.mk ((by rw [hg]; exact (below_size (by repeat (first | (with_reducible first | exact HB.out | apply below_alloc | apply pw_below_drewN | apply below_drew1 | refine below_set ?_ GE190.out) | exact HB.out))) : w.heap.size ≤ gb199)); have n4_ := Aside0.mk ((by rw [hg]; exact (below_size (by repeat (first | (with_reducible first | exact HB.out | apply below_alloc | apply pw_below_drewN | apply below_drew1 | refine below_set ?_ GE190.out) | exact HB.out))) : w.heap.size ≤ gb199)); have n5_ := Aside0.mk ((by rw [hg]; exact Nat.ne_of_lt (blk_lt (g := gb190) (o := .cells #[.int .i32 t182, .int .i32 t183, .int .i32 t184, .int .u8 t185, .int .u8 t186, .int .u8 t187, .int .u8 t188] 26 (0, 0)) (by (with_reducible repeat (first | refine blk_drewN ?_ _ | refine blk_drew ?_ | refine blk_alloc ?_ _)); exact BK190.out)) : gb190 ≠ gb199)); have n6_ := Aside0.mk ((by rw [hg]; exact Nat.ne_of_gt (blk_lt (g := gb190) (o := .cells #[.int .i32 t182, .int .i32 t183, .int .i32 t184, .int .u8 t185, .int .u8 t186, .int .u8 t187, .int .u8 t188] 26 (0, 0)) (by (with_reducible repeat (first | refine blk_drewN ?_ _ | refine blk_drew ?_ | refine blk_alloc ?_ _)); exact BK190.out)) : gb199 ≠ gb190)); clear BK190; clear HB; have BK190 := n0_; have HB := n1_; have BK199 := n2_; have GW199 := n3_; have GE199 := n4_; have NB190_199 := n5_; have NB199_190 := n6_; clear n0_ n1_ n2_ n3_ n4_ n5_ n6_; clear hb hbox hg; have hnb19 := NB199_190.out; have hnc19 := NB190_199.out; have hcz20_0 : w18.cell? ⟨gb199, 0, none⟩ = some (.int .i32 0) := (blk_cell BK199.out 0).trans rfl; have hcz20_1 : w18.cell? ⟨gb199, 1, none⟩ = some (.int .i32 0) := (blk_cell BK199.out 1).trans rfl; have hcz20_2 : w18.cell? ⟨gb199, 2, none⟩ = some (.int .i32 0) := (blk_cell BK199.out 2).trans rfl; have hcz20_3 : w18.cell? ⟨gb199, 3, none⟩ = some (.int .u8 0) := (blk_cell BK199.out 3).trans rfl; have hcz20_4 : w18.cell? ⟨gb199, 4, none⟩ = some (.int .u8 0) := (blk_cell BK199.out 4).trans rfl; have hcz20_5 : w18.cell? ⟨gb199, 5, none⟩ = some (.int .u8 0) := (blk_cell BK199.out 5).trans rfl; have hcz20_6 : w18.cell? ⟨gb199, 6, none⟩ = some (.int .u8 0) := (blk_cell BK199.out 6).trans rfl; have hfz20_0 := blk_frozen BK199.out 0; have hfz20_1 := blk_frozen BK199.out 1; have hfz20_2 := blk_frozen BK199.out 2; have hfz20_3 := blk_frozen BK199.out 3; have hfz20_4 := blk_frozen BK199.out 4; have hfz20_5 := blk_frozen BK199.out 5; have hfz20_6 := blk_frozen BK199.out 6) | ((with_reducible refine gate_callee (f := 21) rfl ?_); refine goesL_ (some 21) rfl rfl Try.func21 (by kernel_rfl) rfl #[.agg #[.int .u8 0, .int .u8 0, .int .u8 0]] rfl (by (try simp only [List.map_toArray, List.map_cons, List.map_nil]); first | done | rfl | (simp only [List.length_drop, List.length_take]; rfl)) ?_; (with_reducible refine (cell_Blank.calls 0 0 0 t200 t201 t202 t203 t204 t205 t206 _ A3.out).mono ?_); rintro e w21 ⟨rfl, hb⟩; refine ⟨_, rfl, ?_⟩; have n0_ := Aside0.mk (blk_below (g := gb190) (o := .cells #[.int .i32 t182, .int .i32 t183, .int .i32 t184, .int .u8 t185, .int .u8 t186, .int .u8 t187, .int .u8 t188] 26 (0, 0)) (by (with_reducible repeat (first | refine blk_drewN ?_ _ | refine blk_drew ?_ | refine blk_alloc ?_ _)); refine blk_far ?_ NB190_199.out _; (with_reducible repeat (first | refine blk_drewN ?_ _ | refine blk_drew ?_ | refine blk_alloc ?_ _)); refine blk_far ?_ NB190_199.out _; (with_reducible repeat (first | refine blk_drewN ?_ _ | refine blk_drew ?_ | refine blk_alloc ?_ _)); refine blk_far ?_ NB190_199.out _; (with_reducible repeat (first | refine blk_drewN ?_ _ | refine blk_drew ?_ | refine blk_alloc ?_ _)); refine blk_far ?_ NB190_199.out _; (with_reducible repeat (first | refine blk_drewN ?_ _ | refine blk_drew ?_ | refine blk_alloc ?_ _)); refine blk_far ?_ NB190_199.out _; (with_reducible repeat (first | refine blk_drewN ?_ _ | refine blk_drew ?_ | refine blk_alloc ?_ _)); refine blk_far ?_ NB190_199.out _; (with_reducible repeat (first | refine blk_drewN ?_ _ | refine blk_drew ?_ | refine blk_alloc ?_ _)); refine blk_far ?_ NB190_199.out _; (with_reducible repeat (first | refine blk_drewN ?_ _ | refine blk_drew ?_ | refine blk_alloc ?_ _)); exact BK190.out) hb); have n1_ := Aside0.mk (blk_below (g := gb199) (o := .cells #[.int .i32 t191, .int .i32 t192, .int .i32 t193, .int .u8 t194, .int .u8 t195, .int .u8 t196, .int .u8 t197] 26 (0, 0)) (by (with_reducible repeat (first | refine blk_drewN ?_ _ | refine blk_drew ?_ | refine blk_alloc ?_ _)); refine blk_put (cs := #[.int .i32 t191, .int .i32 t192, .int .i32 t193, .int .u8 t194, .int .u8 t195, .int .u8 t196, .int .u8 0]) ?_ 6 _ rfl; (with_reducible repeat (first | refine blk_drewN ?_ _ | refine blk_drew ?_ | refine blk_alloc ?_ _)); refine blk_put (cs := #[.int .i32 t191, .int .i32 t192, .int .i32 t193, .int .u8 t194, .int .u8 t195, .int .u8 0, .int .u8 0]) ?_ 5 _ rfl; (with_reducible repeat (first | refine blk_drewN ?_ _ | refine blk_drew ?_ | refine blk_alloc ?_ _)); refine blk_put (cs := #[.int .i32 t191, .int .i32 t192, .int .i32 t193, .int .u8 t194, .int .u8 0, .int .u8 0, .int .u8 0]) ?_ 4 _ rfl; (with_reducible repeat (first | refine blk_drewN ?_ _ | refine blk_drew ?_ | refine blk_alloc ?_ _)); refine blk_put (cs := #[.int .i32 t191, .int .i32 t192, .int .i32 t193, .int .u8 0, .int .u8 0, .int .u8 0, .int .u8 0]) ?_ 3 _ rfl; (with_reducible repeat (first | refine blk_drewN ?_ _ | refine blk_drew ?_ | refine blk_alloc ?_ _)); refine blk_put (cs := #[.int .i32 t191, .int .i32 t192, .int .i32 0, .int .u8 0, .int .u8 0, .int .u8 0, .int .u8 0]) ?_ 2 _ rfl; (with_reducible repeat (first | refine blk_drewN ?_ _ | refine blk_drew ?_ | refine blk_alloc ?_ _)); refine blk_put (cs := #[.int .i32 t191, .int .i32 0, .int .i32 0, .int .u8 0, .int .u8 0, .int .u8 0, .int .u8 0]) ?_ 1 _ rfl; (with_reducible repeat (first | refine blk_drewN ?_ _ | refine blk_drew ?_ | refine blk_alloc ?_ _)); refine blk_put (cs := #[.int .i32 0, .int .i32 0, .int .i32 0, .int .u8 0, .int .u8 0, .int .u8 0, .int .u8 0]) ?_ 0 _ rfl; (with_reducible repeat (first | refine blk_drewN ?_ _ | refine blk_drew ?_ | refine blk_alloc ?_ _)); exact BK199.out) hb); have n2_ := Aside0.mk (below_step (by repeat (first | (with_reducible first | exact HB.out | apply below_alloc | apply pw_below_drewN | apply below_drew1 | refine below_set ?_ GE190.out | refine below_set ?_ GE199.out) | exact HB.out)) hb); clear BK190; clear BK199; clear HB; have BK190 := n0_; have BK199 := n1_; have HB := n2_; clear n0_ n1_ n2_; (try clear hb); (try clear hb2); (try clear hk); (try clear hi)) | ((with_reducible refine gate_dst (N := 5) rfl ?_); (try (refine gate_guard (by rfl) ?_; dsimp only)); refine box_event ?hg (N := 5) ?hd (cs := #[.int .i32 0, .int .i32 0, .int .i32 0, .int .u8 0, .int .u8 0, .int .u8 0, .int .u8 0]) (t := 26) ?hr ?_; (case hd => rfl); (case hg => rfl); (case hr => first | (go_simp; done) | (go_simp; rfl)); intro gb207 hg w22 hbox hb; have n0_ := Aside0.mk (blk_below (g := gb190) (o := .cells #[.int .i32 t182, .int .i32 t183, .int .i32 t184, .int .u8 t185, .int .u8 t186, .int .u8 t187, .int .u8 t188] 26 (0, 0)) (by (with_reducible repeat (first | refine blk_drewN ?_ _ | refine blk_drew ?_ | refine blk_alloc ?_ _)); exact BK190.out) hb); have n1_ := Aside0.mk (blk_below (g := gb199) (o := .cells #[.int .i32 t191, .int .i32 t192, .int .i32 t193, .int .u8 t194, .int .u8 t195, .int .u8 t196, .int .u8 t197] 26 (0, 0)) (by (with_reducible repeat (first | refine blk_drewN ?_ _ | refine blk_drew ?_ | refine blk_alloc ?_ _)); exact BK199.out) hb); have n2_ := Aside0.mk (below_step (by repeat (first | (with_reducible first | exact HB.out | apply below_alloc | apply pw_below_drewN | apply below_drew1 | refine below_set ?_ GE190.out | refine below_set ?_ GE199.out) | exact HB.out)) hb); have n3_ := Aside0.mk (hbox); have n4_ := Aside0.mk ((by rw [hg]; exact (below_size (by repeat (first | (with_reducible first | exact HB.out | apply below_alloc | apply pw_below_drewN | apply below_drew1 | refine below_set ?_ GE190.out | refine below_set ?_ GE199.out) | exact HB.out))) : w.heap.size ≤ gb207)); have n5_ := Aside0.mk ((by rw [hg]; exact (below_size (by repeat (first | (with_reducible first | exact HB.out | apply below_alloc | apply pw_below_drewN | apply below_drew1 | refine below_set ?_ GE190.out | refine below_set ?_ GE199.out) | exact HB.out))) : w.heap.size ≤ gb207)); have n6_ := Aside0.mk ((by rw [hg]; exact Nat.ne_of_lt (blk_lt (g := gb190) (o := .cells #[.int .i32 t182, .int .i32 t183, .int .i32 t184, .int .u8 t185, .int .u8 t186, .int .u8 t187, .int .u8 t188] 26 (0, 0)) (by (with_reducible repeat (first | refine blk_drewN ?_ _ | refine blk_drew ?_ | refine blk_alloc ?_ _)); exact BK190.out)) : gb190 ≠ gb207)); have n7_ := Aside0.mk ((by rw [hg]; exact Nat.ne_of_gt (blk_lt (g := gb190) (o := .cells #[.int .i32 t182, .int .i32 t183, .int .i32 t184, .int .u8 t185, .int .u8 t186, .int .u8 t187, .int .u8 t188] 26 (0, 0)) (by (with_reducible repeat (first | refine blk_drewN ?_ _ | refine blk_drew ?_ | refine blk_alloc ?_ _)); exact BK190.out)) : gb207 ≠ gb190)); have n8_ := Aside0.mk ((by rw [hg]; exact Nat.ne_of_lt (blk_lt (g := gb199) (o := .cells #[.int .i32 t191, .int .i32 t192, .int .i32 t193, .int .u8 t194, .int .u8 t195, .int .u8 t196, .int .u8 t197] 26 (0, 0)) (by (with_reducible repeat (first | refine blk_drewN ?_ _ | refine blk_drew ?_ | refine blk_alloc ?_ _)); exact BK199.out)) : gb199 ≠ gb207)); have n9_ := Aside0.mk ((by rw [hg]; exact Nat.ne_of_gt (blk_lt (g := gb199) (o := .cells #[.int .i32 t191, .int .i32 t192, .int .i32 t193, .int .u8 t194, .int .u8 t195, .int .u8 t196, .int .u8 t197] 26 (0, 0)) (by (with_reducible repeat (first | refine blk_drewN ?_ _ | refine blk_drew ?_ | refine blk_alloc ?_ _)); exact BK199.out)) : gb207 ≠ gb199)); clear BK190; clear BK199; clear HB; have BK190 := n0_; have BK199 := n1_; have HB := n2_; have BK207 := n3_; have GW207 := n4_; have GE207 := n5_; have NB190_207 := n6_; have NB207_190 := n7_; have NB199_207 := n8_; have NB207_199 := n9_; clear n0_ n1_ n2_ n3_ n4_ n5_ n6_ n7_ n8_ n9_; clear hb hbox hg; have hnb23 := NB207_190.out; have hnc23 := NB190_207.out; have hnb24 := NB207_199.out; have hnc24 := NB199_207.out; have hcz25_0 : w22.cell? ⟨gb207, 0, none⟩ = some (.int .i32 0) := (blk_cell BK207.out 0).trans rfl; have hcz25_1 : w22.cell? ⟨gb207, 1, none⟩ = some (.int .i32 0) := (blk_cell BK207.out 1).trans rfl; have hcz25_2 : w22.cell? ⟨gb207, 2, none⟩ = some (.int .i32 0) := (blk_cell BK207.out 2).trans rfl; have hcz25_3 : w22.cell? ⟨gb207, 3, none⟩ = some (.int .u8 0) := (blk_cell BK207.out 3).trans rfl; have hcz25_4 : w22.cell? ⟨gb207, 4, none⟩ = some (.int .u8 0) := (blk_cell BK207.out 4).trans rfl; have hcz25_5 : w22.cell? ⟨gb207, 5, none⟩ = some (.int .u8 0) := (blk_cell BK207.out 5).trans rfl; have hcz25_6 : w22.cell? ⟨gb207, 6, none⟩ = some (.int .u8 0) := (blk_cell BK207.out 6).trans rfl; have hfz25_0 := blk_frozen BK207.out 0; have hfz25_1 := blk_frozen BK207.out 1; have hfz25_2 := blk_frozen BK207.out 2; have hfz25_3 := blk_frozen BK207.out 3; have hfz25_4 := blk_frozen BK207.out 4; have hfz25_5 := blk_frozen BK207.out 5; have hfz25_6 := blk_frozen BK207.out 6))
          have n0_ : Aside0 ((((((((w22.setCell ⟨gb207, 0, none⟩ (.int .i32 t200)).setCell ⟨gb207, 1, none⟩ (.int .i32 t201)).setCell ⟨gb207, 2, none⟩ (.int .i32 t202)).setCell ⟨gb207, 3, none⟩ (.int .u8 t203)).setCell ⟨gb207, 4, none⟩ (.int .u8 t204)).setCell ⟨gb207, 5, none⟩ (.int .u8 t205)).setCell ⟨gb207, 6, none⟩ (.int .u8 t206)).heap[gb190]? = some (.cells #[.int .i32 t182, .int .i32 t183, .int .i32 t184, .int .u8 t185, .int .u8 t186, .int .u8 t187, .int .u8 t188] 26 (0, 0))) := ⟨by (with_reducible repeat (first | refine blk_drewN ?_ _ | refine blk_drew ?_ | refine blk_alloc ?_ _)); refine blk_far ?_ NB190_207.out _; (with_reducible repeat (first | refine blk_drewN ?_ _ | refine blk_drew ?_ | refine blk_alloc ?_ _)); refine blk_far ?_ NB190_207.out _; (with_reducible repeat (first | refine blk_drewN ?_ _ | refine blk_drew ?_ | refine blk_alloc ?_ _)); refine blk_far ?_ NB190_207.out _; (with_reducible repeat (first | refine blk_drewN ?_ _ | refine blk_drew ?_ | refine blk_alloc ?_ _)); refine blk_far ?_ NB190_207.out _; (with_reducible repeat (first | refine blk_drewN ?_ _ | refine blk_drew ?_ | refine blk_alloc ?_ _)); refine blk_far ?_ NB190_207.out _; (with_reducible repeat (first | refine blk_drewN ?_ _ | refine blk_drew ?_ | refine blk_alloc ?_ _)); refine blk_far ?_ NB190_207.out _; (with_reducible repeat (first | refine blk_drewN ?_ _ | refine blk_drew ?_ | refine blk_alloc ?_ _)); refine blk_far ?_ NB190_207.out _; (with_reducible repeat (first | refine blk_drewN ?_ _ | refine blk_drew ?_ | refine blk_alloc ?_ _)); exact BK190.out⟩
          have n1_ : Aside0 ((((((((w22.setCell ⟨gb207, 0, none⟩ (.int .i32 t200)).setCell ⟨gb207, 1, none⟩ (.int .i32 t201)).setCell ⟨gb207, 2, none⟩ (.int .i32 t202)).setCell ⟨gb207, 3, none⟩ (.int .u8 t203)).setCell ⟨gb207, 4, none⟩ (.int .u8 t204)).setCell ⟨gb207, 5, none⟩ (.int .u8 t205)).setCell ⟨gb207, 6, none⟩ (.int .u8 t206)).heap[gb199]? = some (.cells #[.int .i32 t191, .int .i32 t192, .int .i32 t193, .int .u8 t194, .int .u8 t195, .int .u8 t196, .int .u8 t197] 26 (0, 0))) := ⟨by (with_reducible repeat (first | refine blk_drewN ?_ _ | refine blk_drew ?_ | refine blk_alloc ?_ _)); refine blk_far ?_ NB199_207.out _; (with_reducible repeat (first | refine blk_drewN ?_ _ | refine blk_drew ?_ | refine blk_alloc ?_ _)); refine blk_far ?_ NB199_207.out _; (with_reducible repeat (first | refine blk_drewN ?_ _ | refine blk_drew ?_ | refine blk_alloc ?_ _)); refine blk_far ?_ NB199_207.out _; (with_reducible repeat (first | refine blk_drewN ?_ _ | refine blk_drew ?_ | refine blk_alloc ?_ _)); refine blk_far ?_ NB199_207.out _; (with_reducible repeat (first | refine blk_drewN ?_ _ | refine blk_drew ?_ | refine blk_alloc ?_ _)); refine blk_far ?_ NB199_207.out _; (with_reducible repeat (first | refine blk_drewN ?_ _ | refine blk_drew ?_ | refine blk_alloc ?_ _)); refine blk_far ?_ NB199_207.out _; (with_reducible repeat (first | refine blk_drewN ?_ _ | refine blk_drew ?_ | refine blk_alloc ?_ _)); refine blk_far ?_ NB199_207.out _; (with_reducible repeat (first | refine blk_drewN ?_ _ | refine blk_drew ?_ | refine blk_alloc ?_ _)); exact BK199.out⟩
          have n2_ : Aside0 ((((((((w22.setCell ⟨gb207, 0, none⟩ (.int .i32 t200)).setCell ⟨gb207, 1, none⟩ (.int .i32 t201)).setCell ⟨gb207, 2, none⟩ (.int .i32 t202)).setCell ⟨gb207, 3, none⟩ (.int .u8 t203)).setCell ⟨gb207, 4, none⟩ (.int .u8 t204)).setCell ⟨gb207, 5, none⟩ (.int .u8 t205)).setCell ⟨gb207, 6, none⟩ (.int .u8 t206)).heap[gb207]? = some (.cells #[.int .i32 t200, .int .i32 t201, .int .i32 t202, .int .u8 t203, .int .u8 t204, .int .u8 t205, .int .u8 t206] 26 (0, 0))) := ⟨by (with_reducible repeat (first | refine blk_drewN ?_ _ | refine blk_drew ?_ | refine blk_alloc ?_ _)); refine blk_put (cs := #[.int .i32 t200, .int .i32 t201, .int .i32 t202, .int .u8 t203, .int .u8 t204, .int .u8 t205, .int .u8 0]) ?_ 6 _ rfl; (with_reducible repeat (first | refine blk_drewN ?_ _ | refine blk_drew ?_ | refine blk_alloc ?_ _)); refine blk_put (cs := #[.int .i32 t200, .int .i32 t201, .int .i32 t202, .int .u8 t203, .int .u8 t204, .int .u8 0, .int .u8 0]) ?_ 5 _ rfl; (with_reducible repeat (first | refine blk_drewN ?_ _ | refine blk_drew ?_ | refine blk_alloc ?_ _)); refine blk_put (cs := #[.int .i32 t200, .int .i32 t201, .int .i32 t202, .int .u8 t203, .int .u8 0, .int .u8 0, .int .u8 0]) ?_ 4 _ rfl; (with_reducible repeat (first | refine blk_drewN ?_ _ | refine blk_drew ?_ | refine blk_alloc ?_ _)); refine blk_put (cs := #[.int .i32 t200, .int .i32 t201, .int .i32 t202, .int .u8 0, .int .u8 0, .int .u8 0, .int .u8 0]) ?_ 3 _ rfl; (with_reducible repeat (first | refine blk_drewN ?_ _ | refine blk_drew ?_ | refine blk_alloc ?_ _)); refine blk_put (cs := #[.int .i32 t200, .int .i32 t201, .int .i32 0, .int .u8 0, .int .u8 0, .int .u8 0, .int .u8 0]) ?_ 2 _ rfl; (with_reducible repeat (first | refine blk_drewN ?_ _ | refine blk_drew ?_ | refine blk_alloc ?_ _)); refine blk_put (cs := #[.int .i32 t200, .int .i32 0, .int .i32 0, .int .u8 0, .int .u8 0, .int .u8 0, .int .u8 0]) ?_ 1 _ rfl; (with_reducible repeat (first | refine blk_drewN ?_ _ | refine blk_drew ?_ | refine blk_alloc ?_ _)); refine blk_put (cs := #[.int .i32 0, .int .i32 0, .int .i32 0, .int .u8 0, .int .u8 0, .int .u8 0, .int .u8 0]) ?_ 0 _ rfl; (with_reducible repeat (first | refine blk_drewN ?_ _ | refine blk_drew ?_ | refine blk_alloc ?_ _)); exact BK207.out⟩
          have n3_ : Aside0 (Below w.heap.size w (((((((w22.setCell ⟨gb207, 0, none⟩ (.int .i32 t200)).setCell ⟨gb207, 1, none⟩ (.int .i32 t201)).setCell ⟨gb207, 2, none⟩ (.int .i32 t202)).setCell ⟨gb207, 3, none⟩ (.int .u8 t203)).setCell ⟨gb207, 4, none⟩ (.int .u8 t204)).setCell ⟨gb207, 5, none⟩ (.int .u8 t205)).setCell ⟨gb207, 6, none⟩ (.int .u8 t206))) := ⟨by repeat (first | (with_reducible first | exact HB.out | apply below_alloc | apply pw_below_drewN | apply below_drew1 | refine below_set ?_ GE190.out | refine below_set ?_ GE199.out | refine below_set ?_ GE207.out) | exact HB.out)⟩
          (try clear BK190)
          (try clear BK199)
          (try clear BK207)
          (try clear HB)
          generalize (((((((w22.setCell ⟨gb207, 0, none⟩ (.int .i32 t200)).setCell ⟨gb207, 1, none⟩ (.int .i32 t201)).setCell ⟨gb207, 2, none⟩ (.int .i32 t202)).setCell ⟨gb207, 3, none⟩ (.int .u8 t203)).setCell ⟨gb207, 4, none⟩ (.int .u8 t204)).setCell ⟨gb207, 5, none⟩ (.int .u8 t205)).setCell ⟨gb207, 6, none⟩ (.int .u8 t206)) = w26 at n0_ n1_ n2_ n3_ ⊢
          have BK190 := n0_
          have BK199 := n1_
          have BK207 := n2_
          have HB := n3_
          clear n0_ n1_ n2_ n3_
          have n0_ := Aside0.mk (blk_drew BK190.out)
          have n1_ := Aside0.mk (blk_drew BK199.out)
          have n2_ := Aside0.mk (blk_drew BK207.out)
          have n3_ := Aside0.mk (below_drew1 HB.out)
          clear BK190
          clear BK199
          clear BK207
          clear HB
          have BK190 := n0_
          have BK199 := n1_
          have BK207 := n2_
          have HB := n3_
          clear n0_ n1_ n2_ n3_
          refine start_ (n := 8) (S := fun w' => w'.cell? ⟨gb190, 0, none⟩ = some (.int .i32 t182) ∧ w'.cell? ⟨gb190, 1, none⟩ = some (.int .i32 t183) ∧ w'.cell? ⟨gb190, 2, none⟩ = some (.int .i32 t184) ∧ w'.cell? ⟨gb190, 3, none⟩ = some (.int .u8 t185) ∧ w'.cell? ⟨gb190, 4, none⟩ = some (.int .u8 t186) ∧ w'.cell? ⟨gb190, 5, none⟩ = some (.int .u8 t187) ∧ w'.cell? ⟨gb190, 6, none⟩ = some (.int .u8 t188)) (ds := []) #[false, false, false, false, false, false, false, false] (by kernel_rfl) rfl rfl ⟨(blk_cell BK190.out 0).trans rfl, (blk_cell BK190.out 1).trans rfl, (blk_cell BK190.out 2).trans rfl, (blk_cell BK190.out 3).trans rfl, (blk_cell BK190.out 4).trans rfl, (blk_cell BK190.out 5).trans rfl, (blk_cell BK190.out 6).trans rfl⟩ (fun hHeld => ?_); refine with_tabW prolepsislaw06_knownB.tab4 prolepsislaw06_knownB.bits4 (fun HT_ HW_ => ?_)
          generalize w26.drew = w27 at BK190 BK199 BK207 HB hHeld ⊢
          refine take_ (i := 1) (N := some 24) (v := ?_) (a' := ?_) #[false, true, false, false, false, false, false, false] rfl rfl (take_ofW HT_.out HW_.out (by kernel_rfl)) (fun _ _ _ h => h) (Or.inl ⟨by rfl, ?_⟩) hHeld ?_ ?_
          rotate_left
          · rintro w' ⟨s0, s1, s2, s3, s4, s5, s6⟩
            go_simp
            with_reducible rfl
          rotate_left
          · simp only [Act.put, List.setIfInBounds_toArray, List.set_cons_zero, List.set_cons_succ, i64_w, i32_w]
            rfl
          refine one_ (i := 0) (N := some 23) #[true, true, false, false, false, false, false, false] rfl rfl (one_of HT_.out (by kernel_rfl)) (by decide) (fun K hK => ?_)
          refine goes_ Try.func51 (by kernel_rfl) rfl #[.int .i64 4] (by rfl) rfl rfl (by (try simp only [List.map_toArray, List.map_cons, List.map_nil]); first | done | rfl | (simp only [List.length_drop, List.length_take]; rfl)) ?_
          with_reducible refine (line_New.calls k 4 t208 _ A4.out).mono ?_
          rintro e w28 ⟨v209, rfl, ho0, hb⟩
          refine ⟨_, rfl, ?_⟩
          have n0_ := Aside0.mk (Kd.R_lower (Kd.R_newB (Kd.R_newB (Kd.R_newB ho0 (g := gb190) (o := .cells #[.int .i32 t182, .int .i32 t183, .int .i32 t184, .int .u8 t185, .int .u8 t186, .int .u8 t187, .int .u8 t188] 26 (0, 0)) (by (with_reducible repeat (first | refine blk_drewN ?_ _ | refine blk_drew ?_ | refine blk_alloc ?_ _)); exact BK190.out)) (g := gb199) (o := .cells #[.int .i32 t191, .int .i32 t192, .int .i32 t193, .int .u8 t194, .int .u8 t195, .int .u8 t196, .int .u8 t197] 26 (0, 0)) (by (with_reducible repeat (first | refine blk_drewN ?_ _ | refine blk_drew ?_ | refine blk_alloc ?_ _)); exact BK199.out)) (g := gb207) (o := .cells #[.int .i32 t200, .int .i32 t201, .int .i32 t202, .int .u8 t203, .int .u8 t204, .int .u8 t205, .int .u8 t206] 26 (0, 0)) (by (with_reducible repeat (first | refine blk_drewN ?_ _ | refine blk_drew ?_ | refine blk_alloc ?_ _)); exact BK207.out)) (below_size (by repeat (first | (with_reducible first | exact HB.out | apply below_alloc | apply pw_below_drewN | apply below_drew1 | refine below_set ?_ GE190.out | refine below_set ?_ GE199.out | refine below_set ?_ GE207.out) | exact HB.out))))
          have n1_ := Aside0.mk (blk_below (g := gb190) (o := .cells #[.int .i32 t182, .int .i32 t183, .int .i32 t184, .int .u8 t185, .int .u8 t186, .int .u8 t187, .int .u8 t188] 26 (0, 0)) (by (with_reducible repeat (first | refine blk_drewN ?_ _ | refine blk_drew ?_ | refine blk_alloc ?_ _)); exact BK190.out) hb)
          have n2_ := Aside0.mk (blk_below (g := gb199) (o := .cells #[.int .i32 t191, .int .i32 t192, .int .i32 t193, .int .u8 t194, .int .u8 t195, .int .u8 t196, .int .u8 t197] 26 (0, 0)) (by (with_reducible repeat (first | refine blk_drewN ?_ _ | refine blk_drew ?_ | refine blk_alloc ?_ _)); exact BK199.out) hb)
          have n3_ := Aside0.mk (blk_below (g := gb207) (o := .cells #[.int .i32 t200, .int .i32 t201, .int .i32 t202, .int .u8 t203, .int .u8 t204, .int .u8 t205, .int .u8 t206] 26 (0, 0)) (by (with_reducible repeat (first | refine blk_drewN ?_ _ | refine blk_drew ?_ | refine blk_alloc ?_ _)); exact BK207.out) hb)
          have n4_ := Aside0.mk (below_step (by repeat (first | (with_reducible first | exact HB.out | apply below_alloc | apply pw_below_drewN | apply below_drew1 | refine below_set ?_ GE190.out | refine below_set ?_ GE199.out | refine below_set ?_ GE207.out) | exact HB.out)) hb)
          clear BK190
          clear BK199
          clear BK207
          clear HB
          have HO210 := n0_
          have BK190 := n1_
          have BK199 := n2_
          have BK207 := n3_
          have HB := n4_
          clear n0_ n1_ n2_ n3_ n4_
          (try clear hb)
          (try clear hb2)
          (try clear hk)
          (try clear hi)
          (try clear ho0)
          obtain ⟨Ao29, co29, eo29⟩ := Kd.R_slice HO210.out
          (first | subst eo29 | (injection eo29 with f1_ f2_ f3_; have f4_ := f1_.symm; have f5_ := f3_.symm; clear f1_ f2_ f3_; subst f4_; subst f5_))
          refine hK.out _ _ ⟨(blk_cell BK190.out 0).trans rfl, (blk_cell BK190.out 1).trans rfl, (blk_cell BK190.out 2).trans rfl, (blk_cell BK190.out 3).trans rfl, (blk_cell BK190.out 4).trans rfl, (blk_cell BK190.out 5).trans rfl, (blk_cell BK190.out 6).trans rfl⟩ (fun hHeld => ?_)
          clear hK K
          refine norm_ (a' := ?_) ?_ ?_
          rotate_left
          · show Act.put _ (some 23) _ = _
            simp only [Act.put, List.setIfInBounds_toArray, List.set_cons_zero, List.set_cons_succ, i64_w, i32_w]
            rfl
          refine one_ (i := 2) (N := some 25) #[true, true, true, false, false, false, false, false] rfl rfl (one_of HT_.out (by kernel_rfl)) (by decide) (fun K hK => ?_)
          refine goes_ Try.func37 (by kernel_rfl) rfl #[.slice Ao29 t208.length co29, .int .i64 1, .agg #[.int .i32 t182, .int .i32 t183, .int .i32 t184, .int .u8 t185, .int .u8 t186, .int .u8 t187, .int .u8 t188]] (by rfl) rfl rfl (by (try simp only [List.map_toArray, List.map_cons, List.map_nil]); first | done | rfl | (simp only [List.length_drop, List.length_take]; rfl)) ?_
          with_reducible refine (line_Put.calls k _ _ t208 1 t182 t183 t184 t185 t186 t187 t188 t211 true _ ?side1 ?side2 A5.out).mono ?_
          (case side1 => repeat (first | exact (Kd.R_reads' HO210.out).2.2 | (with_reducible refine Kd.C_alloc ?_ _) | (with_reducible refine Kd.C_drewN ?_ _) | (with_reducible refine Kd.C_drew ?_)))
          (case side2 => exact (Kd.R_reads' HO210.out).2.1)
          rintro e w30 ⟨v212, rfl, ho0, hb⟩
          refine ⟨_, rfl, ?_⟩
          have n0_ := Aside0.mk (Kd.R_elder' (by (with_reducible repeat (first | apply Kd.R_alloc | apply Kd.R_drewN | apply Kd.R_drew)); exact HO210.out) (Kd.R_base ho0) hb)
          have n1_ := Aside0.mk (Kd.R_lower (Kd.R_newB (Kd.R_newB (Kd.R_newB (Kd.R_new' ho0 (Kd.R_lt (by (with_reducible repeat (first | apply Kd.R_alloc | apply Kd.R_drewN | apply Kd.R_drew)); exact HO210.out))) (g := gb190) (o := .cells #[.int .i32 t182, .int .i32 t183, .int .i32 t184, .int .u8 t185, .int .u8 t186, .int .u8 t187, .int .u8 t188] 26 (0, 0)) (by (with_reducible repeat (first | refine blk_drewN ?_ _ | refine blk_drew ?_ | refine blk_alloc ?_ _)); exact BK190.out)) (g := gb199) (o := .cells #[.int .i32 t191, .int .i32 t192, .int .i32 t193, .int .u8 t194, .int .u8 t195, .int .u8 t196, .int .u8 t197] 26 (0, 0)) (by (with_reducible repeat (first | refine blk_drewN ?_ _ | refine blk_drew ?_ | refine blk_alloc ?_ _)); exact BK199.out)) (g := gb207) (o := .cells #[.int .i32 t200, .int .i32 t201, .int .i32 t202, .int .u8 t203, .int .u8 t204, .int .u8 t205, .int .u8 t206] 26 (0, 0)) (by (with_reducible repeat (first | refine blk_drewN ?_ _ | refine blk_drew ?_ | refine blk_alloc ?_ _)); exact BK207.out)) (below_size (by repeat (first | (with_reducible first | exact HB.out | apply below_alloc | apply pw_below_drewN | apply below_drew1 | refine below_set ?_ GE190.out | refine below_set ?_ GE199.out | refine below_set ?_ GE207.out) | exact HB.out))))
          have n2_ := Aside0.mk (blk_below (g := gb190) (o := .cells #[.int .i32 t182, .int .i32 t183, .int .i32 t184, .int .u8 t185, .int .u8 t186, .int .u8 t187, .int .u8 t188] 26 (0, 0)) (by (with_reducible repeat (first | refine blk_drewN ?_ _ | refine blk_drew ?_ | refine blk_alloc ?_ _)); exact BK190.out) hb)
          have n3_ := Aside0.mk (blk_below (g := gb199) (o := .cells #[.int .i32 t191, .int .i32 t192, .int .i32 t193, .int .u8 t194, .int .u8 t195, .int .u8 t196, .int .u8 t197] 26 (0, 0)) (by (with_reducible repeat (first | refine blk_drewN ?_ _ | refine blk_drew ?_ | refine blk_alloc ?_ _)); exact BK199.out) hb)
          have n4_ := Aside0.mk (blk_below (g := gb207) (o := .cells #[.int .i32 t200, .int .i32 t201, .int .i32 t202, .int .u8 t203, .int .u8 t204, .int .u8 t205, .int .u8 t206] 26 (0, 0)) (by (with_reducible repeat (first | refine blk_drewN ?_ _ | refine blk_drew ?_ | refine blk_alloc ?_ _)); exact BK207.out) hb)
          have n5_ := Aside0.mk (below_step (by repeat (first | (with_reducible first | exact HB.out | apply below_alloc | apply pw_below_drewN | apply below_drew1 | refine below_set ?_ GE190.out | refine below_set ?_ GE199.out | refine below_set ?_ GE207.out) | exact HB.out)) hb)
          clear HO210
          clear BK190
          clear BK199
          clear BK207
          clear HB
          have HO210 := n0_
          have HO213 := n1_
          have BK190 := n2_
          have BK199 := n3_
          have BK207 := n4_
          have HB := n5_
          clear n0_ n1_ n2_ n3_ n4_ n5_
          (try clear hb)
          (try clear hb2)
          (try clear hk)
          (try clear hi)
          (try clear ho0)
          refine hK.out _ _ ⟨(blk_cell BK190.out 0).trans rfl, (blk_cell BK190.out 1).trans rfl, (blk_cell BK190.out 2).trans rfl, (blk_cell BK190.out 3).trans rfl, (blk_cell BK190.out 4).trans rfl, (blk_cell BK190.out 5).trans rfl, (blk_cell BK190.out 6).trans rfl⟩ (fun hHeld => ?_)
          clear hK K
          refine norm_ (a' := ?_) ?_ ?_
          rotate_left
          · show Act.put _ (some 25) _ = _
            simp only [Act.put, List.setIfInBounds_toArray, List.set_cons_zero, List.set_cons_succ, i64_w, i32_w]
            rfl
          refine pure_ (i := 3) (N := some 22) (v := ?_) (a' := ?_) #[true, true, true, true, false, false, false, false] rfl rfl (any_of HT_.out (by kernel_rfl)) (fun _ _ _ h => h) (Or.inl ⟨by rfl, ?_⟩) ?_ ?_
          rotate_left
          · intro w'
            go_simp
            with_reducible rfl
          rotate_left
          · simp only [Act.put, List.setIfInBounds_toArray, List.set_cons_zero, List.set_cons_succ, i64_w, i32_w]
            rfl
          refine pure_ (i := 4) (N := some 26) (v := ?_) (a' := ?_) #[true, true, true, true, true, false, false, false] rfl rfl (any_of HT_.out (by kernel_rfl)) (fun _ _ _ h => h) (Or.inl ⟨by rfl, ?_⟩) ?_ ?_
          rotate_left
          · intro w'
            go_simp
            with_reducible rfl
          rotate_left
          · simp only [Act.put, List.setIfInBounds_toArray, List.set_cons_zero, List.set_cons_succ, i64_w, i32_w]
            rfl
          refine pure_ (i := 5) (N := some 27) (v := ?_) (a' := ?_) #[true, true, true, true, true, true, false, false] rfl rfl (any_of HT_.out (by kernel_rfl)) (fun _ _ _ h => h) (Or.inl ⟨by rfl, ?_⟩) ?_ ?_
          rotate_left
          · intro w'
            go_simp
            with_reducible rfl
          rotate_left
          · simp only [Act.put, List.setIfInBounds_toArray, List.set_cons_zero, List.set_cons_succ, i64_w, i32_w]
            rfl
          refine pure_ (i := 6) (N := some 6) (v := ?_) (a' := ?_) #[true, true, true, true, true, true, true, false] rfl rfl (any_of HT_.out (by kernel_rfl)) (fun _ _ _ h => h) (Or.inl ⟨by rfl, ?_⟩) ?_ ?_
          rotate_left
          · intro w'
            go_simp
            with_reducible rfl
          rotate_left
          · simp only [Act.put, List.setIfInBounds_toArray, List.set_cons_zero, List.set_cons_succ, i64_w, i32_w]
            rfl
          refine pure_ (i := 7) (N := some 7) (v := ?_) (a' := ?_) #[true, true, true, true, true, true, true, true] rfl rfl (any_of HT_.out (by kernel_rfl)) (fun _ _ _ h => h) (Or.inl ⟨by rfl, ?_⟩) ?_ ?_
          rotate_left
          · intro w'
            go_simp
            with_reducible rfl
          rotate_left
          · simp only [Act.put, List.setIfInBounds_toArray, List.set_cons_zero, List.set_cons_succ, i64_w, i32_w]
            rfl
          refine done_ (done_of HT_.out (by kernel_rfl)) ?_
          have hcz31_0 : w30.cell? ⟨gb199, 0, none⟩ = some (.int .i32 t191) := (blk_cell BK199.out 0).trans rfl
          have hcz31_1 : w30.cell? ⟨gb199, 1, none⟩ = some (.int .i32 t192) := (blk_cell BK199.out 1).trans rfl
          have hcz31_2 : w30.cell? ⟨gb199, 2, none⟩ = some (.int .i32 t193) := (blk_cell BK199.out 2).trans rfl
          have hcz31_3 : w30.cell? ⟨gb199, 3, none⟩ = some (.int .u8 t194) := (blk_cell BK199.out 3).trans rfl
          have hcz31_4 : w30.cell? ⟨gb199, 4, none⟩ = some (.int .u8 t195) := (blk_cell BK199.out 4).trans rfl
          have hcz31_5 : w30.cell? ⟨gb199, 5, none⟩ = some (.int .u8 t196) := (blk_cell BK199.out 5).trans rfl
          have hcz31_6 : w30.cell? ⟨gb199, 6, none⟩ = some (.int .u8 t197) := (blk_cell BK199.out 6).trans rfl
          have hfz31_0 := blk_frozen BK199.out 0
          have hfz31_1 := blk_frozen BK199.out 1
          have hfz31_2 := blk_frozen BK199.out 2
          have hfz31_3 := blk_frozen BK199.out 3
          have hfz31_4 := blk_frozen BK199.out 4
          have hfz31_5 := blk_frozen BK199.out 5
          have hfz31_6 := blk_frozen BK199.out 6
          obtain ⟨Ao32, co32, eo32⟩ := Kd.R_slice HO213.out
          subst eo32
          try go_wp2_with (first | ((with_reducible refine gate_callee (f := 37) rfl ?_); refine goesL_ (some 31) rfl rfl Try.func37 (by kernel_rfl) rfl #[.slice Ao32 t211.length co32, .int .i64 2, .agg #[.int .i32 t191, .int .i32 t192, .int .i32 t193, .int .u8 t194, .int .u8 t195, .int .u8 t196, .int .u8 t197]] rfl (by (try simp only [List.map_toArray, List.map_cons, List.map_nil]); first | done | rfl | (simp only [List.length_drop, List.length_take]; rfl)) ?_; (with_reducible refine (line_Put.calls k _ _ t211 2 t191 t192 t193 t194 t195 t196 t197 t215 true _ ?side1 ?side2 A6.out).mono ?_); (case side1 => repeat (first | exact (Kd.R_reads' HO213.out).2.2 | (with_reducible refine Kd.C_alloc ?_ _) | (with_reducible refine Kd.C_drewN ?_ _) | (with_reducible refine Kd.C_drew ?_))); (case side2 => exact (Kd.R_reads' HO213.out).2.1); rintro e w33 ⟨v216, rfl, ho0, hb⟩; refine ⟨_, rfl, ?_⟩; have n0_ := Aside0.mk (Kd.R_elder' (by (with_reducible repeat (first | apply Kd.R_alloc | apply Kd.R_drewN | apply Kd.R_drew)); exact HO210.out) (Kd.R_base ho0) hb); have n1_ := Aside0.mk (Kd.R_elder' (by (with_reducible repeat (first | apply Kd.R_alloc | apply Kd.R_drewN | apply Kd.R_drew)); exact HO213.out) (Kd.R_base ho0) hb); have n2_ := Aside0.mk (Kd.R_lower (Kd.R_newB (Kd.R_newB (Kd.R_newB (Kd.R_new' (Kd.R_new' ho0 (Kd.R_lt (by (with_reducible repeat (first | apply Kd.R_alloc | apply Kd.R_drewN | apply Kd.R_drew)); exact HO210.out))) (Kd.R_lt (by (with_reducible repeat (first | apply Kd.R_alloc | apply Kd.R_drewN | apply Kd.R_drew)); exact HO213.out))) (g := gb190) (o := .cells #[.int .i32 t182, .int .i32 t183, .int .i32 t184, .int .u8 t185, .int .u8 t186, .int .u8 t187, .int .u8 t188] 26 (0, 0)) (by (with_reducible repeat (first | refine blk_drewN ?_ _ | refine blk_drew ?_ | refine blk_alloc ?_ _)); exact BK190.out)) (g := gb199) (o := .cells #[.int .i32 t191, .int .i32 t192, .int .i32 t193, .int .u8 t194, .int .u8 t195, .int .u8 t196, .int .u8 t197] 26 (0, 0)) (by (with_reducible repeat (first | refine blk_drewN ?_ _ | refine blk_drew ?_ | refine blk_alloc ?_ _)); exact BK199.out)) (g := gb207) (o := .cells #[.int .i32 t200, .int .i32 t201, .int .i32 t202, .int .u8 t203, .int .u8 t204, .int .u8 t205, .int .u8 t206] 26 (0, 0)) (by (with_reducible repeat (first | refine blk_drewN ?_ _ | refine blk_drew ?_ | refine blk_alloc ?_ _)); exact BK207.out)) (below_size (by repeat (first | (with_reducible first | exact HB.out | apply below_alloc | apply pw_below_drewN | apply below_drew1 | refine below_set ?_ GE190.out | refine below_set ?_ GE199.out | refine below_set ?_ GE207.out) | exact HB.out)))); have n3_ := Aside0.mk (blk_below (g := gb190) (o := .cells #[.int .i32 t182, .int .i32 t183, .int .i32 t184, .int .u8 t185, .int .u8 t186, .int .u8 t187, .int .u8 t188] 26 (0, 0)) (by (with_reducible repeat (first | refine blk_drewN ?_ _ | refine blk_drew ?_ | refine blk_alloc ?_ _)); exact BK190.out) hb); have n4_ := Aside0.mk (blk_below (g := gb199) (o := .cells #[.int .i32 t191, .int .i32 t192, .int .i32 t193, .int .u8 t194, .int .u8 t195, .int .u8 t196, .int .u8 t197] 26 (0, 0)) (by (with_reducible repeat (first | refine blk_drewN ?_ _ | refine blk_drew ?_ | refine blk_alloc ?_ _)); exact BK199.out) hb); have n5_ := Aside0.mk (blk_below (g := gb207) (o := .cells #[.int .i32 t200, .int .i32 t201, .int .i32 t202, .int .u8 t203, .int .u8 t204, .int .u8 t205, .int .u8 t206] 26 (0, 0)) (by (with_reducible repeat (first | refine blk_drewN ?_ _ | refine blk_drew ?_ | refine blk_alloc ?_ _)); exact BK207.out) hb); have n6_ := Aside0.mk (below_step (by repeat (first | (with_reducible first | exact HB.out | apply below_alloc | apply pw_below_drewN | apply below_drew1 | refine below_set ?_ GE190.out | refine below_set ?_ GE199.out | refine below_set ?_ GE207.out) | exact HB.out)) hb); clear HO210; clear HO213; clear BK190; clear BK199; clear BK207; clear HB; have HO210 := n0_; have HO213 := n1_; have HO217 := n2_; have BK190 := n3_; have BK199 := n4_; have BK207 := n5_; have HB := n6_; clear n0_ n1_ n2_ n3_ n4_ n5_ n6_; (try clear hb); (try clear hb2); (try clear hk); (try clear hi); (try clear ho0)))
          have n0_ := Aside0.mk (Kd.R_drew HO210.out)
          have n1_ := Aside0.mk (Kd.R_drew HO213.out)
          have n2_ := Aside0.mk (Kd.R_drew HO217.out)
          have n3_ := Aside0.mk (blk_drew BK190.out)
          have n4_ := Aside0.mk (blk_drew BK199.out)
          have n5_ := Aside0.mk (blk_drew BK207.out)
          have n6_ := Aside0.mk (below_drew1 HB.out)
          clear HO210
          clear HO213
          clear HO217
          clear BK190
          clear BK199
          clear BK207
          clear HB
          have HO210 := n0_
          have HO213 := n1_
          have HO217 := n2_
          have BK190 := n3_
          have BK199 := n4_
          have BK207 := n5_
          have HB := n6_
          clear n0_ n1_ n2_ n3_ n4_ n5_ n6_
          refine start_ (n := 29) (S := fun w' => w'.cell? ⟨gb207, 0, none⟩ = some (.int .i32 t200) ∧ w'.cell? ⟨gb207, 1, none⟩ = some (.int .i32 t201) ∧ w'.cell? ⟨gb207, 2, none⟩ = some (.int .i32 t202) ∧ w'.cell? ⟨gb207, 3, none⟩ = some (.int .u8 t203) ∧ w'.cell? ⟨gb207, 4, none⟩ = some (.int .u8 t204) ∧ w'.cell? ⟨gb207, 5, none⟩ = some (.int .u8 t205) ∧ w'.cell? ⟨gb207, 6, none⟩ = some (.int .u8 t206) ∧ w'.cell? ⟨gb190, 0, none⟩ = some (.int .i32 t182) ∧ w'.cell? ⟨gb190, 1, none⟩ = some (.int .i32 t183) ∧ w'.cell? ⟨gb190, 2, none⟩ = some (.int .i32 t184) ∧ w'.cell? ⟨gb190, 3, none⟩ = some (.int .u8 t185) ∧ w'.cell? ⟨gb190, 4, none⟩ = some (.int .u8 t186) ∧ w'.cell? ⟨gb190, 5, none⟩ = some (.int .u8 t187) ∧ w'.cell? ⟨gb190, 6, none⟩ = some (.int .u8 t188) ∧ w'.cell? ⟨gb199, 0, none⟩ = some (.int .i32 t191) ∧ w'.cell? ⟨gb199, 1, none⟩ = some (.int .i32 t192) ∧ w'.cell? ⟨gb199, 2, none⟩ = some (.int .i32 t193) ∧ w'.cell? ⟨gb199, 3, none⟩ = some (.int .u8 t194) ∧ w'.cell? ⟨gb199, 4, none⟩ = some (.int .u8 t195) ∧ w'.cell? ⟨gb199, 5, none⟩ = some (.int .u8 t196) ∧ w'.cell? ⟨gb199, 6, none⟩ = some (.int .u8 t197)) (ds := []) #[false, false, false, false, false, false, false, false, false, false, false, false, false, false, false, false, false, false, false, false, false, false, false, false, false, false, false, false, false] (by kernel_rfl) rfl rfl ⟨(blk_cell BK207.out 0).trans rfl, (blk_cell BK207.out 1).trans rfl, (blk_cell BK207.out 2).trans rfl, (blk_cell BK207.out 3).trans rfl, (blk_cell BK207.out 4).trans rfl, (blk_cell BK207.out 5).trans rfl, (blk_cell BK207.out 6).trans rfl, (blk_cell BK190.out 0).trans rfl, (blk_cell BK190.out 1).trans rfl, (blk_cell BK190.out 2).trans rfl, (blk_cell BK190.out 3).trans rfl, (blk_cell BK190.out 4).trans rfl, (blk_cell BK190.out 5).trans rfl, (blk_cell BK190.out 6).trans rfl, (blk_cell BK199.out 0).trans rfl, (blk_cell BK199.out 1).trans rfl, (blk_cell BK199.out 2).trans rfl, (blk_cell BK199.out 3).trans rfl, (blk_cell BK199.out 4).trans rfl, (blk_cell BK199.out 5).trans rfl, (blk_cell BK199.out 6).trans rfl⟩ (fun hHeld => ?_); refine with_tabW prolepsislaw06_knownB.tab6 prolepsislaw06_knownB.bits6 (fun HT_ HW_ => ?_)
          generalize w33.drew = w34 at HO210 HO213 HO217 BK190 BK199 BK207 HB hHeld ⊢
          refine pure_ (i := 0) (N := some 34) (v := ?_) (a' := ?_) #[true, false, false, false, false, false, false, false, false, false, false, false, false, false, false, false, false, false, false, false, false, false, false, false, false, false, false, false, false] rfl rfl (any_of HT_.out (by kernel_rfl)) (fun _ _ _ h => h) (Or.inl ⟨by rfl, ?_⟩) ?_ ?_
          rotate_left
          · intro w'
            go_simp
            with_reducible rfl
          rotate_left
          · simp only [Act.put, List.setIfInBounds_toArray, List.set_cons_zero, List.set_cons_succ, i64_w, i32_w]
            rfl
          refine pure_ (i := 1) (N := some 35) (v := ?_) (a' := ?_) #[true, true, false, false, false, false, false, false, false, false, false, false, false, false, false, false, false, false, false, false, false, false, false, false, false, false, false, false, false] rfl rfl (any_of HT_.out (by kernel_rfl)) (fun _ _ _ h => h) (Or.inl ⟨by rfl, ?_⟩) ?_ ?_
          rotate_left
          · intro w'
            go_simp
            with_reducible rfl
          rotate_left
          · simp only [Act.put, List.setIfInBounds_toArray, List.set_cons_zero, List.set_cons_succ, i64_w, i32_w]
            rfl
          refine pure_ (i := 2) (N := some 36) (v := ?_) (a' := ?_) #[true, true, true, false, false, false, false, false, false, false, false, false, false, false, false, false, false, false, false, false, false, false, false, false, false, false, false, false, false] rfl rfl (any_of HT_.out (by kernel_rfl)) (fun _ _ _ h => h) (Or.inl ⟨by rfl, ?_⟩) ?_ ?_
          rotate_left
          · intro w'
            go_simp
            with_reducible rfl
          rotate_left
          · simp only [Act.put, List.setIfInBounds_toArray, List.set_cons_zero, List.set_cons_succ, i64_w, i32_w]
            rfl
          refine take_ (i := 3) (N := some 37) (v := ?_) (a' := ?_) #[true, true, true, true, false, false, false, false, false, false, false, false, false, false, false, false, false, false, false, false, false, false, false, false, false, false, false, false, false] rfl rfl (take_ofW HT_.out HW_.out (by kernel_rfl)) (fun _ _ _ h => h) (Or.inl ⟨by rfl, ?_⟩) hHeld ?_ ?_
          rotate_left
          · rintro w' ⟨s0, s1, s2, s3, s4, s5, s6, s7, s8, s9, s10, s11, s12, s13, s14, s15, s16, s17, s18, s19, s20⟩
            go_simp
            with_reducible rfl
          rotate_left
          · simp only [Act.put, List.setIfInBounds_toArray, List.set_cons_zero, List.set_cons_succ, i64_w, i32_w]
            rfl
          refine take_ (i := 4) (N := some 38) (v := ?_) (a' := ?_) #[true, true, true, true, true, false, false, false, false, false, false, false, false, false, false, false, false, false, false, false, false, false, false, false, false, false, false, false, false] rfl rfl (take_ofW HT_.out HW_.out (by kernel_rfl)) (fun _ _ _ h => h) (Or.inl ⟨by rfl, ?_⟩) hHeld ?_ ?_
          rotate_left
          · rintro w' ⟨s0, s1, s2, s3, s4, s5, s6, s7, s8, s9, s10, s11, s12, s13, s14, s15, s16, s17, s18, s19, s20⟩
            go_simp
            with_reducible rfl
          rotate_left
          · simp only [Act.put, List.setIfInBounds_toArray, List.set_cons_zero, List.set_cons_succ, i64_w, i32_w]
            rfl
          refine take_ (i := 5) (N := some 39) (v := ?_) (a' := ?_) #[true, true, true, true, true, true, false, false, false, false, false, false, false, false, false, false, false, false, false, false, false, false, false, false, false, false, false, false, false] rfl rfl (take_ofW HT_.out HW_.out (by kernel_rfl)) (fun _ _ _ h => h) (Or.inl ⟨by rfl, ?_⟩) hHeld ?_ ?_
          rotate_left
          · rintro w' ⟨s0, s1, s2, s3, s4, s5, s6, s7, s8, s9, s10, s11, s12, s13, s14, s15, s16, s17, s18, s19, s20⟩
            go_simp
            with_reducible rfl
          rotate_left
          · simp only [Act.put, List.setIfInBounds_toArray, List.set_cons_zero, List.set_cons_succ, i64_w, i32_w]
            rfl
          refine take_ (i := 7) (N := some 41) (v := ?_) (a' := ?_) #[true, true, true, true, true, true, false, true, false, false, false, false, false, false, false, false, false, false, false, false, false, false, false, false, false, false, false, false, false] rfl rfl (take_ofW HT_.out HW_.out (by kernel_rfl)) (fun _ _ _ h => h) (Or.inl ⟨by rfl, ?_⟩) hHeld ?_ ?_
          rotate_left
          · rintro w' ⟨s0, s1, s2, s3, s4, s5, s6, s7, s8, s9, s10, s11, s12, s13, s14, s15, s16, s17, s18, s19, s20⟩
            go_simp
            with_reducible rfl
          rotate_left
          · simp only [Act.put, List.setIfInBounds_toArray, List.set_cons_zero, List.set_cons_succ, i64_w, i32_w]
            rfl
          refine one_ (i := 6) (N := some 40) #[true, true, true, true, true, true, true, true, false, false, false, false, false, false, false, false, false, false, false, false, false, false, false, false, false, false, false, false, false] rfl rfl (one_of HT_.out (by kernel_rfl)) (by decide) (fun K hK => ?_)
          refine goes_ Try.func23 (by kernel_rfl) rfl #[.agg #[.int .i32 t182, .int .i32 t183, .int .i32 t184, .int .u8 t185, .int .u8 t186, .int .u8 t187, .int .u8 t188]] (by rfl) rfl rfl (by (try simp only [List.map_toArray, List.map_cons, List.map_nil]); first | done | rfl | (simp only [List.length_drop, List.length_take]; rfl)) ?_
          with_reducible refine (cell_Rest.calls t182 t183 t184 t185 t186 t187 t188 t219 t220 t221 t222 t223 t224 t225 _ A8.out).mono ?_
          rintro e w35 ⟨rfl, hb⟩
          refine ⟨_, rfl, ?_⟩
          have n0_ := Aside0.mk (Kd.R_below (by (with_reducible repeat (first | apply Kd.R_alloc | apply Kd.R_drewN | apply Kd.R_drew)); exact HO210.out) hb)
          have n1_ := Aside0.mk (Kd.R_below (by (with_reducible repeat (first | apply Kd.R_alloc | apply Kd.R_drewN | apply Kd.R_drew)); exact HO213.out) hb)
          have n2_ := Aside0.mk (Kd.R_below (by (with_reducible repeat (first | apply Kd.R_alloc | apply Kd.R_drewN | apply Kd.R_drew)); exact HO217.out) hb)
          have n3_ := Aside0.mk (blk_below (g := gb190) (o := .cells #[.int .i32 t182, .int .i32 t183, .int .i32 t184, .int .u8 t185, .int .u8 t186, .int .u8 t187, .int .u8 t188] 26 (0, 0)) (by (with_reducible repeat (first | refine blk_drewN ?_ _ | refine blk_drew ?_ | refine blk_alloc ?_ _)); exact BK190.out) hb)
          have n4_ := Aside0.mk (blk_below (g := gb199) (o := .cells #[.int .i32 t191, .int .i32 t192, .int .i32 t193, .int .u8 t194, .int .u8 t195, .int .u8 t196, .int .u8 t197] 26 (0, 0)) (by (with_reducible repeat (first | refine blk_drewN ?_ _ | refine blk_drew ?_ | refine blk_alloc ?_ _)); exact BK199.out) hb)
          have n5_ := Aside0.mk (blk_below (g := gb207) (o := .cells #[.int .i32 t200, .int .i32 t201, .int .i32 t202, .int .u8 t203, .int .u8 t204, .int .u8 t205, .int .u8 t206] 26 (0, 0)) (by (with_reducible repeat (first | refine blk_drewN ?_ _ | refine blk_drew ?_ | refine blk_alloc ?_ _)); exact BK207.out) hb)
          have n6_ := Aside0.mk (below_step (by repeat (first | (with_reducible first | exact HB.out | apply below_alloc | apply pw_below_drewN | apply below_drew1 | refine below_set ?_ GE190.out | refine below_set ?_ GE199.out | refine below_set ?_ GE207.out) | exact HB.out)) hb)
          clear HO210
          clear HO213
          clear HO217
          clear BK190
          clear BK199
          clear BK207
          clear HB
          have HO210 := n0_
          have HO213 := n1_
          have HO217 := n2_
          have BK190 := n3_
          have BK199 := n4_
          have BK207 := n5_
          have HB := n6_
          clear n0_ n1_ n2_ n3_ n4_ n5_ n6_
          (try clear hb)
          (try clear hb2)
          (try clear hk)
          (try clear hi)
          refine hK.out _ _ ⟨(blk_cell BK207.out 0).trans rfl, (blk_cell BK207.out 1).trans rfl, (blk_cell BK207.out 2).trans rfl, (blk_cell BK207.out 3).trans rfl, (blk_cell BK207.out 4).trans rfl, (blk_cell BK207.out 5).trans rfl, (blk_cell BK207.out 6).trans rfl, (blk_cell BK190.out 0).trans rfl, (blk_cell BK190.out 1).trans rfl, (blk_cell BK190.out 2).trans rfl, (blk_cell BK190.out 3).trans rfl, (blk_cell BK190.out 4).trans rfl, (blk_cell BK190.out 5).trans rfl, (blk_cell BK190.out 6).trans rfl, (blk_cell BK199.out 0).trans rfl, (blk_cell BK199.out 1).trans rfl, (blk_cell BK199.out 2).trans rfl, (blk_cell BK199.out 3).trans rfl, (blk_cell BK199.out 4).trans rfl, (blk_cell BK199.out 5).trans rfl, (blk_cell BK199.out 6).trans rfl⟩ (fun hHeld => ?_)
          clear hK K
          refine norm_ (a' := ?_) ?_ ?_
          rotate_left
          · show Act.put _ (some 40) _ = _
            simp only [Act.put, List.setIfInBounds_toArray, List.set_cons_zero, List.set_cons_succ, i64_w, i32_w]
            rfl
          refine one_ (i := 8) (N := some 42) #[true, true, true, true, true, true, true, true, true, false, false, false, false, false, false, false, false, false, false, false, false, false, false, false, false, false, false, false, false] rfl rfl (one_of HT_.out (by kernel_rfl)) (by decide) (fun K hK => ?_)
          refine Kd.R_lit_step k26 _ 26 ?hg (N := 42) ?hd (xs := ([(⟨t200, (⟨t201, t202⟩ : S22), t203, (⟨t204, t205, t206⟩ : S24)⟩ : S26), (⟨t182, (⟨t183, t184⟩ : S22), t185, (⟨t186, t187, t188⟩ : S24)⟩ : S26), (⟨t219, (⟨t220, t221⟩ : S22), t222, (⟨t223, t224, t225⟩ : S24)⟩ : S26), (⟨t200, (⟨t201, t202⟩ : S22), t203, (⟨t204, t205, t206⟩ : S24)⟩ : S26)] : List (S26))) (inner := [.int .i32 t200, .int .i32 t201, .int .i32 t202, .int .u8 t203, .int .u8 t204, .int .u8 t205, .int .u8 t206, .int .i32 t182, .int .i32 t183, .int .i32 t184, .int .u8 t185, .int .u8 t186, .int .u8 t187, .int .u8 t188, .int .i32 t219, .int .i32 t220, .int .i32 t221, .int .u8 t222, .int .u8 t223, .int .u8 t224, .int .u8 t225, .int .i32 t200, .int .i32 t201, .int .i32 t202, .int .u8 t203, .int .u8 t204, .int .u8 t205, .int .u8 t206]) (ok := fun _ => True) (okp := fun _ => True) ?hr ?hp (fun _ hk => hk) trivial (Below.refl _ _) (Nat.le_refl _) (by simp) ?_; (case hd => rfl); (case hg => rfl); (case hr => first | (go_simp; done) | (go_simp; rfl)); (case hp => exact (Reps.c7 (show Kd.M k26 _ _ _ (⟨t200, (⟨t201, t202⟩ : S22), t203, (⟨t204, t205, t206⟩ : S24)⟩ : S26) [.int .i32 t200, .int .i32 t201, .int .i32 t202, .int .u8 t203, .int .u8 t204, .int .u8 t205, .int .u8 t206] from (k26_mkM _ _ _ (⟨t200, (⟨t201, t202⟩ : S22), t203, (⟨t204, t205, t206⟩ : S24)⟩ : S26) )) (Reps.c7 (show Kd.M k26 _ _ _ (⟨t182, (⟨t183, t184⟩ : S22), t185, (⟨t186, t187, t188⟩ : S24)⟩ : S26) [.int .i32 t182, .int .i32 t183, .int .i32 t184, .int .u8 t185, .int .u8 t186, .int .u8 t187, .int .u8 t188] from (k26_mkM _ _ _ (⟨t182, (⟨t183, t184⟩ : S22), t185, (⟨t186, t187, t188⟩ : S24)⟩ : S26) )) (Reps.c7 (show Kd.M k26 _ _ _ (⟨t219, (⟨t220, t221⟩ : S22), t222, (⟨t223, t224, t225⟩ : S24)⟩ : S26) [.int .i32 t219, .int .i32 t220, .int .i32 t221, .int .u8 t222, .int .u8 t223, .int .u8 t224, .int .u8 t225] from (k26_mkM _ _ _ (⟨t219, (⟨t220, t221⟩ : S22), t222, (⟨t223, t224, t225⟩ : S24)⟩ : S26) )) (Reps.c7 (show Kd.M k26 _ _ _ (⟨t200, (⟨t201, t202⟩ : S22), t203, (⟨t204, t205, t206⟩ : S24)⟩ : S26) [.int .i32 t200, .int .i32 t201, .int .i32 t202, .int .u8 t203, .int .u8 t204, .int .u8 t205, .int .u8 t206] from (k26_mkM _ _ _ (⟨t200, (⟨t201, t202⟩ : S22), t203, (⟨t204, t205, t206⟩ : S24)⟩ : S26) )) (Reps.none _ _))))))
          intro v227 w36 ho37 hb hg_ hnew_
          clear hg_ hnew_
          (first | rw [← Ny226.out] at ho37 | (simp only [Int.reduceToNat] at ho37; rw [← Ny226.out] at ho37))
          have n0_ := Aside0.mk (Kd.R_elder' (by (with_reducible repeat (first | apply Kd.R_alloc | apply Kd.R_drewN | apply Kd.R_drew)); exact HO210.out) (Kd.R_base ho37) hb)
          have n1_ := Aside0.mk (Kd.R_elder' (by (with_reducible repeat (first | apply Kd.R_alloc | apply Kd.R_drewN | apply Kd.R_drew)); exact HO213.out) (Kd.R_base ho37) hb)
          have n2_ := Aside0.mk (Kd.R_elder' (by (with_reducible repeat (first | apply Kd.R_alloc | apply Kd.R_drewN | apply Kd.R_drew)); exact HO217.out) (Kd.R_base ho37) hb)
          have n3_ := Aside0.mk (Kd.R_lower (Kd.R_newB (Kd.R_newB (Kd.R_newB (Kd.R_new' (Kd.R_new' (Kd.R_new' ho37 (Kd.R_lt (by (with_reducible repeat (first | apply Kd.R_alloc | apply Kd.R_drewN | apply Kd.R_drew)); exact HO210.out))) (Kd.R_lt (by (with_reducible repeat (first | apply Kd.R_alloc | apply Kd.R_drewN | apply Kd.R_drew)); exact HO213.out))) (Kd.R_lt (by (with_reducible repeat (first | apply Kd.R_alloc | apply Kd.R_drewN | apply Kd.R_drew)); exact HO217.out))) (g := gb190) (o := .cells #[.int .i32 t182, .int .i32 t183, .int .i32 t184, .int .u8 t185, .int .u8 t186, .int .u8 t187, .int .u8 t188] 26 (0, 0)) (by (with_reducible repeat (first | refine blk_drewN ?_ _ | refine blk_drew ?_ | refine blk_alloc ?_ _)); exact BK190.out)) (g := gb199) (o := .cells #[.int .i32 t191, .int .i32 t192, .int .i32 t193, .int .u8 t194, .int .u8 t195, .int .u8 t196, .int .u8 t197] 26 (0, 0)) (by (with_reducible repeat (first | refine blk_drewN ?_ _ | refine blk_drew ?_ | refine blk_alloc ?_ _)); exact BK199.out)) (g := gb207) (o := .cells #[.int .i32 t200, .int .i32 t201, .int .i32 t202, .int .u8 t203, .int .u8 t204, .int .u8 t205, .int .u8 t206] 26 (0, 0)) (by (with_reducible repeat (first | refine blk_drewN ?_ _ | refine blk_drew ?_ | refine blk_alloc ?_ _)); exact BK207.out)) (below_size (by repeat (first | (with_reducible first | exact HB.out | apply below_alloc | apply pw_below_drewN | apply below_drew1 | refine below_set ?_ GE190.out | refine below_set ?_ GE199.out | refine below_set ?_ GE207.out) | exact HB.out))))
          have n4_ := Aside0.mk (blk_below (g := gb190) (o := .cells #[.int .i32 t182, .int .i32 t183, .int .i32 t184, .int .u8 t185, .int .u8 t186, .int .u8 t187, .int .u8 t188] 26 (0, 0)) (by (with_reducible repeat (first | refine blk_drewN ?_ _ | refine blk_drew ?_ | refine blk_alloc ?_ _)); exact BK190.out) hb)
          have n5_ := Aside0.mk (blk_below (g := gb199) (o := .cells #[.int .i32 t191, .int .i32 t192, .int .i32 t193, .int .u8 t194, .int .u8 t195, .int .u8 t196, .int .u8 t197] 26 (0, 0)) (by (with_reducible repeat (first | refine blk_drewN ?_ _ | refine blk_drew ?_ | refine blk_alloc ?_ _)); exact BK199.out) hb)
          have n6_ := Aside0.mk (blk_below (g := gb207) (o := .cells #[.int .i32 t200, .int .i32 t201, .int .i32 t202, .int .u8 t203, .int .u8 t204, .int .u8 t205, .int .u8 t206] 26 (0, 0)) (by (with_reducible repeat (first | refine blk_drewN ?_ _ | refine blk_drew ?_ | refine blk_alloc ?_ _)); exact BK207.out) hb)
          have n7_ := Aside0.mk (below_step (by repeat (first | (with_reducible first | exact HB.out | apply below_alloc | apply pw_below_drewN | apply below_drew1 | refine below_set ?_ GE190.out | refine below_set ?_ GE199.out | refine below_set ?_ GE207.out) | exact HB.out)) hb)
          clear HO210
          clear HO213
          clear HO217
          clear BK190
          clear BK199
          clear BK207
          clear HB
          have HO210 := n0_
          have HO213 := n1_
          have HO217 := n2_
          have HO228 := n3_
          have BK190 := n4_
          have BK199 := n5_
          have BK207 := n6_
          have HB := n7_
          clear n0_ n1_ n2_ n3_ n4_ n5_ n6_ n7_
          clear hb ho37
          obtain ⟨Ao38, co38, eo38⟩ := Kd.R_slice HO228.out
          (first | subst eo38 | (injection eo38 with f1_ f2_ f3_; have f4_ := f1_.symm; have f5_ := f3_.symm; clear f1_ f2_ f3_; subst f4_; subst f5_))
          refine hK.out _ _ ⟨(blk_cell BK207.out 0).trans rfl, (blk_cell BK207.out 1).trans rfl, (blk_cell BK207.out 2).trans rfl, (blk_cell BK207.out 3).trans rfl, (blk_cell BK207.out 4).trans rfl, (blk_cell BK207.out 5).trans rfl, (blk_cell BK207.out 6).trans rfl, (blk_cell BK190.out 0).trans rfl, (blk_cell BK190.out 1).trans rfl, (blk_cell BK190.out 2).trans rfl, (blk_cell BK190.out 3).trans rfl, (blk_cell BK190.out 4).trans rfl, (blk_cell BK190.out 5).trans rfl, (blk_cell BK190.out 6).trans rfl, (blk_cell BK199.out 0).trans rfl, (blk_cell BK199.out 1).trans rfl, (blk_cell BK199.out 2).trans rfl, (blk_cell BK199.out 3).trans rfl, (blk_cell BK199.out 4).trans rfl, (blk_cell BK199.out 5).trans rfl, (blk_cell BK199.out 6).trans rfl⟩ (fun hHeld => ?_)
          clear hK K
          refine norm_ (a' := ?_) ?_ ?_
          rotate_left
          · show Act.put _ (some 42) _ = _
            simp only [Act.put, List.setIfInBounds_toArray, List.set_cons_zero, List.set_cons_succ, i64_w, i32_w]
            rfl
          refine one_ (i := 9) (N := some 43) #[true, true, true, true, true, true, true, true, true, true, false, false, false, false, false, false, false, false, false, false, false, false, false, false, false, false, false, false, false] rfl rfl (one_of HT_.out (by kernel_rfl)) (by decide) (fun K hK => ?_)
          refine goes_ Try.func38 (by kernel_rfl) rfl #[.slice Ao32 t211.length co32, .slice Ao38 y226.length co38] (by rfl) rfl rfl (by (try simp only [List.map_toArray, List.map_cons, List.map_nil]); first | done | rfl | (simp only [List.length_drop, List.length_take]; rfl)) ?_
          with_reducible refine (line_Same.calls k _ _ t211 _ _ y226 true _ ?side1 ?side2 ?side3 ?side4 A9.out).mono ?_
          (case side1 => repeat (first | exact (Kd.R_reads' HO213.out).2.2 | (with_reducible refine Kd.C_alloc ?_ _) | (with_reducible refine Kd.C_drewN ?_ _) | (with_reducible refine Kd.C_drew ?_)))
          (case side2 => exact (Kd.R_reads' HO213.out).2.1)
          (case side3 => repeat (first | exact (Kd.R_reads' HO228.out).2.2 | (with_reducible refine Kd.C_alloc ?_ _) | (with_reducible refine Kd.C_drewN ?_ _) | (with_reducible refine Kd.C_drew ?_)))
          (case side4 => exact (Kd.R_reads' HO228.out).2.1)
          rintro e w' ⟨rfl, ⟨nd, rfl⟩⟩
          refine ⟨_, rfl, ?_⟩
          refine hK.out _ _ ⟨(blk_cell BK207.out 0).trans rfl, (blk_cell BK207.out 1).trans rfl, (blk_cell BK207.out 2).trans rfl, (blk_cell BK207.out 3).trans rfl, (blk_cell BK207.out 4).trans rfl, (blk_cell BK207.out 5).trans rfl, (blk_cell BK207.out 6).trans rfl, (blk_cell BK190.out 0).trans rfl, (blk_cell BK190.out 1).trans rfl, (blk_cell BK190.out 2).trans rfl, (blk_cell BK190.out 3).trans rfl, (blk_cell BK190.out 4).trans rfl, (blk_cell BK190.out 5).trans rfl, (blk_cell BK190.out 6).trans rfl, (blk_cell BK199.out 0).trans rfl, (blk_cell BK199.out 1).trans rfl, (blk_cell BK199.out 2).trans rfl, (blk_cell BK199.out 3).trans rfl, (blk_cell BK199.out 4).trans rfl, (blk_cell BK199.out 5).trans rfl, (blk_cell BK199.out 6).trans rfl⟩ (fun hHeld => ?_)
          clear hK K
          refine norm_ (a' := ?_) ?_ ?_
          rotate_left
          · show Act.put _ (some 43) _ = _
            simp only [Act.put, List.setIfInBounds_toArray, List.set_cons_zero, List.set_cons_succ, i64_w, i32_w]
            rfl
          refine pure_ (i := 10) (N := some 44) (v := ?_) (a' := ?_) #[true, true, true, true, true, true, true, true, true, true, true, false, false, false, false, false, false, false, false, false, false, false, false, false, false, false, false, false, false] rfl rfl (any_of HT_.out (by kernel_rfl)) (fun _ _ _ h => h) (Or.inl ⟨by rfl, ?_⟩) ?_ ?_
          rotate_left
          · intro w'
            go_simp
            with_reducible rfl
          rotate_left
          · simp only [Act.put, List.setIfInBounds_toArray, List.set_cons_zero, List.set_cons_succ, i64_w, i32_w]
            rfl
          refine pure_ (i := 11) (N := some 45) (v := ?_) (a' := ?_) #[true, true, true, true, true, true, true, true, true, true, true, true, false, false, false, false, false, false, false, false, false, false, false, false, false, false, false, false, false] rfl rfl (any_of HT_.out (by kernel_rfl)) (fun _ _ _ h => h) (Or.inl ⟨by rfl, ?_⟩) ?_ ?_
          rotate_left
          · intro w'
            go_simp
            with_reducible rfl
          rotate_left
          · simp only [Act.put, List.setIfInBounds_toArray, List.set_cons_zero, List.set_cons_succ, i64_w, i32_w]
            rfl
          refine pure_ (i := 12) (N := some 46) (v := ?_) (a' := ?_) #[true, true, true, true, true, true, true, true, true, true, true, true, true, false, false, false, false, false, false, false, false, false, false, false, false, false, false, false, false] rfl rfl (any_of HT_.out (by kernel_rfl)) (fun _ _ _ h => h) (Or.inl ⟨by rfl, ?_⟩) ?_ ?_
          rotate_left
          · intro w'
            go_simp
            with_reducible rfl
          rotate_left
          · simp only [Act.put, List.setIfInBounds_toArray, List.set_cons_zero, List.set_cons_succ, i64_w, i32_w]
            rfl
          refine pure_ (i := 13) (N := some 47) (v := ?_) (a' := ?_) #[true, true, true, true, true, true, true, true, true, true, true, true, true, true, false, false, false, false, false, false, false, false, false, false, false, false, false, false, false] rfl rfl (any_of HT_.out (by kernel_rfl)) (fun _ _ _ h => h) (Or.inl ⟨by rfl, ?_⟩) ?_ ?_
          rotate_left
          · intro w'
            go_simp
            with_reducible rfl
          rotate_left
          · simp only [Act.put, List.setIfInBounds_toArray, List.set_cons_zero, List.set_cons_succ, i64_w, i32_w]
            rfl
          refine pure_ (i := 14) (N := some 48) (v := ?_) (a' := ?_) #[true, true, true, true, true, true, true, true, true, true, true, true, true, true, true, false, false, false, false, false, false, false, false, false, false, false, false, false, false] rfl rfl (any_of HT_.out (by kernel_rfl)) (fun _ _ _ h => h) (Or.inl ⟨by rfl, ?_⟩) ?_ ?_
          rotate_left
          · intro w'
            go_simp
            with_reducible rfl
          rotate_left
          · simp only [Act.put, List.setIfInBounds_toArray, List.set_cons_zero, List.set_cons_succ, i64_w, i32_w]
            rfl
          refine pure_ (i := 15) (N := some 49) (v := ?_) (a' := ?_) #[true, true, true, true, true, true, true, true, true, true, true, true, true, true, true, true, false, false, false, false, false, false, false, false, false, false, false, false, false] rfl rfl (any_of HT_.out (by kernel_rfl)) (fun _ _ _ h => h) (Or.inl ⟨by rfl, ?_⟩) ?_ ?_
          rotate_left
          · intro w'
            go_simp
            with_reducible rfl
          rotate_left
          · simp only [Act.put, List.setIfInBounds_toArray, List.set_cons_zero, List.set_cons_succ, i64_w, i32_w]
            rfl
          refine take_ (i := 16) (N := some 50) (v := ?_) (a' := ?_) #[true, true, true, true, true, true, true, true, true, true, true, true, true, true, true, true, true, false, false, false, false, false, false, false, false, false, false, false, false] rfl rfl (take_ofW HT_.out HW_.out (by kernel_rfl)) (fun _ _ _ h => h) (Or.inl ⟨by rfl, ?_⟩) hHeld ?_ ?_
          rotate_left
          · rintro w' ⟨s0, s1, s2, s3, s4, s5, s6, s7, s8, s9, s10, s11, s12, s13, s14, s15, s16, s17, s18, s19, s20⟩
            go_simp
            with_reducible rfl
          rotate_left
          · simp only [Act.put, List.setIfInBounds_toArray, List.set_cons_zero, List.set_cons_succ, i64_w, i32_w]
            rfl
          refine take_ (i := 17) (N := some 51) (v := ?_) (a' := ?_) #[true, true, true, true, true, true, true, true, true, true, true, true, true, true, true, true, true, true, false, false, false, false, false, false, false, false, false, false, false] rfl rfl (take_ofW HT_.out HW_.out (by kernel_rfl)) (fun _ _ _ h => h) (Or.inl ⟨by rfl, ?_⟩) hHeld ?_ ?_
          rotate_left
          · rintro w' ⟨s0, s1, s2, s3, s4, s5, s6, s7, s8, s9, s10, s11, s12, s13, s14, s15, s16, s17, s18, s19, s20⟩
            go_simp
            with_reducible rfl
          rotate_left
          · simp only [Act.put, List.setIfInBounds_toArray, List.set_cons_zero, List.set_cons_succ, i64_w, i32_w]
            rfl
          refine take_ (i := 18) (N := some 52) (v := ?_) (a' := ?_) #[true, true, true, true, true, true, true, true, true, true, true, true, true, true, true, true, true, true, true, false, false, false, false, false, false, false, false, false, false] rfl rfl (take_ofW HT_.out HW_.out (by kernel_rfl)) (fun _ _ _ h => h) (Or.inl ⟨by rfl, ?_⟩) hHeld ?_ ?_
          rotate_left
          · rintro w' ⟨s0, s1, s2, s3, s4, s5, s6, s7, s8, s9, s10, s11, s12, s13, s14, s15, s16, s17, s18, s19, s20⟩
            go_simp
            with_reducible rfl
          rotate_left
          · simp only [Act.put, List.setIfInBounds_toArray, List.set_cons_zero, List.set_cons_succ, i64_w, i32_w]
            rfl
          refine take_ (i := 19) (N := some 53) (v := ?_) (a' := ?_) #[true, true, true, true, true, true, true, true, true, true, true, true, true, true, true, true, true, true, true, true, false, false, false, false, false, false, false, false, false] rfl rfl (take_ofW HT_.out HW_.out (by kernel_rfl)) (fun _ _ _ h => h) (Or.inl ⟨by rfl, ?_⟩) hHeld ?_ ?_
          rotate_left
          · rintro w' ⟨s0, s1, s2, s3, s4, s5, s6, s7, s8, s9, s10, s11, s12, s13, s14, s15, s16, s17, s18, s19, s20⟩
            go_simp
            with_reducible rfl
          rotate_left
          · simp only [Act.put, List.setIfInBounds_toArray, List.set_cons_zero, List.set_cons_succ, i64_w, i32_w]
            rfl
          refine one_ (i := 20) (N := some 54) #[true, true, true, true, true, true, true, true, true, true, true, true, true, true, true, true, true, true, true, true, true, false, false, false, false, false, false, false, false] rfl rfl (one_of HT_.out (by kernel_rfl)) (by decide) (fun K hK => ?_)
          refine Kd.R_lit_step k26 _ 26 ?hg (N := 54) ?hd (xs := ([(⟨t200, (⟨t201, t202⟩ : S22), t203, (⟨t204, t205, t206⟩ : S24)⟩ : S26), (⟨t200, (⟨t201, t202⟩ : S22), t203, (⟨t204, t205, t206⟩ : S24)⟩ : S26), (⟨t191, (⟨t192, t193⟩ : S22), t194, (⟨t195, t196, t197⟩ : S24)⟩ : S26), (⟨t200, (⟨t201, t202⟩ : S22), t203, (⟨t204, t205, t206⟩ : S24)⟩ : S26)] : List (S26))) (inner := [.int .i32 t200, .int .i32 t201, .int .i32 t202, .int .u8 t203, .int .u8 t204, .int .u8 t205, .int .u8 t206, .int .i32 t200, .int .i32 t201, .int .i32 t202, .int .u8 t203, .int .u8 t204, .int .u8 t205, .int .u8 t206, .int .i32 t191, .int .i32 t192, .int .i32 t193, .int .u8 t194, .int .u8 t195, .int .u8 t196, .int .u8 t197, .int .i32 t200, .int .i32 t201, .int .i32 t202, .int .u8 t203, .int .u8 t204, .int .u8 t205, .int .u8 t206]) (ok := fun _ => True) (okp := fun _ => True) ?hr ?hp (fun _ hk => hk) trivial (Below.refl _ _) (Nat.le_refl _) (by simp) ?_; (case hd => rfl); (case hg => rfl); (case hr => first | (go_simp; done) | (go_simp; rfl)); (case hp => exact (Reps.c7 (show Kd.M k26 _ _ _ (⟨t200, (⟨t201, t202⟩ : S22), t203, (⟨t204, t205, t206⟩ : S24)⟩ : S26) [.int .i32 t200, .int .i32 t201, .int .i32 t202, .int .u8 t203, .int .u8 t204, .int .u8 t205, .int .u8 t206] from (k26_mkM _ _ _ (⟨t200, (⟨t201, t202⟩ : S22), t203, (⟨t204, t205, t206⟩ : S24)⟩ : S26) )) (Reps.c7 (show Kd.M k26 _ _ _ (⟨t200, (⟨t201, t202⟩ : S22), t203, (⟨t204, t205, t206⟩ : S24)⟩ : S26) [.int .i32 t200, .int .i32 t201, .int .i32 t202, .int .u8 t203, .int .u8 t204, .int .u8 t205, .int .u8 t206] from (k26_mkM _ _ _ (⟨t200, (⟨t201, t202⟩ : S22), t203, (⟨t204, t205, t206⟩ : S24)⟩ : S26) )) (Reps.c7 (show Kd.M k26 _ _ _ (⟨t191, (⟨t192, t193⟩ : S22), t194, (⟨t195, t196, t197⟩ : S24)⟩ : S26) [.int .i32 t191, .int .i32 t192, .int .i32 t193, .int .u8 t194, .int .u8 t195, .int .u8 t196, .int .u8 t197] from (k26_mkM _ _ _ (⟨t191, (⟨t192, t193⟩ : S22), t194, (⟨t195, t196, t197⟩ : S24)⟩ : S26) )) (Reps.c7 (show Kd.M k26 _ _ _ (⟨t200, (⟨t201, t202⟩ : S22), t203, (⟨t204, t205, t206⟩ : S24)⟩ : S26) [.int .i32 t200, .int .i32 t201, .int .i32 t202, .int .u8 t203, .int .u8 t204, .int .u8 t205, .int .u8 t206] from (k26_mkM _ _ _ (⟨t200, (⟨t201, t202⟩ : S22), t203, (⟨t204, t205, t206⟩ : S24)⟩ : S26) )) (Reps.none _ _))))))
          intro v231 w39 ho40 hb hg_ hnew_
          clear hg_ hnew_
          (first | rw [← Ny230.out] at ho40 | (simp only [Int.reduceToNat] at ho40; rw [← Ny230.out] at ho40))
          have n0_ := Aside0.mk (Kd.R_elder' (by (with_reducible repeat (first | apply Kd.R_alloc | apply Kd.R_drewN | apply Kd.R_drew)); exact HO210.out) (Kd.R_base ho40) hb)
          have n1_ := Aside0.mk (Kd.R_elder' (by (with_reducible repeat (first | apply Kd.R_alloc | apply Kd.R_drewN | apply Kd.R_drew)); exact HO213.out) (Kd.R_base ho40) hb)
          have n2_ := Aside0.mk (Kd.R_elder' (by (with_reducible repeat (first | apply Kd.R_alloc | apply Kd.R_drewN | apply Kd.R_drew)); exact HO217.out) (Kd.R_base ho40) hb)
          have n3_ := Aside0.mk (Kd.R_elder' (by (with_reducible repeat (first | apply Kd.R_alloc | apply Kd.R_drewN | apply Kd.R_drew)); exact HO228.out) (Kd.R_base ho40) hb)
          have n4_ := Aside0.mk (Kd.R_lower (Kd.R_newB (Kd.R_newB (Kd.R_newB (Kd.R_new' (Kd.R_new' (Kd.R_new' (Kd.R_new' ho40 (Kd.R_lt (by (with_reducible repeat (first | apply Kd.R_alloc | apply Kd.R_drewN | apply Kd.R_drew)); exact HO210.out))) (Kd.R_lt (by (with_reducible repeat (first | apply Kd.R_alloc | apply Kd.R_drewN | apply Kd.R_drew)); exact HO213.out))) (Kd.R_lt (by (with_reducible repeat (first | apply Kd.R_alloc | apply Kd.R_drewN | apply Kd.R_drew)); exact HO217.out))) (Kd.R_lt (by (with_reducible repeat (first | apply Kd.R_alloc | apply Kd.R_drewN | apply Kd.R_drew)); exact HO228.out))) (g := gb190) (o := .cells #[.int .i32 t182, .int .i32 t183, .int .i32 t184, .int .u8 t185, .int .u8 t186, .int .u8 t187, .int .u8 t188] 26 (0, 0)) (by (with_reducible repeat (first | refine blk_drewN ?_ _ | refine blk_drew ?_ | refine blk_alloc ?_ _)); exact BK190.out)) (g := gb199) (o := .cells #[.int .i32 t191, .int .i32 t192, .int .i32 t193, .int .u8 t194, .int .u8 t195, .int .u8 t196, .int .u8 t197] 26 (0, 0)) (by (with_reducible repeat (first | refine blk_drewN ?_ _ | refine blk_drew ?_ | refine blk_alloc ?_ _)); exact BK199.out)) (g := gb207) (o := .cells #[.int .i32 t200, .int .i32 t201, .int .i32 t202, .int .u8 t203, .int .u8 t204, .int .u8 t205, .int .u8 t206] 26 (0, 0)) (by (with_reducible repeat (first | refine blk_drewN ?_ _ | refine blk_drew ?_ | refine blk_alloc ?_ _)); exact BK207.out)) (below_size (by repeat (first | (with_reducible first | exact HB.out | apply below_alloc | apply pw_below_drewN | apply below_drew1 | refine below_set ?_ GE190.out | refine below_set ?_ GE199.out | refine below_set ?_ GE207.out) | exact HB.out))))
          have n5_ := Aside0.mk (blk_below (g := gb190) (o := .cells #[.int .i32 t182, .int .i32 t183, .int .i32 t184, .int .u8 t185, .int .u8 t186, .int .u8 t187, .int .u8 t188] 26 (0, 0)) (by (with_reducible repeat (first | refine blk_drewN ?_ _ | refine blk_drew ?_ | refine blk_alloc ?_ _)); exact BK190.out) hb)
          have n6_ := Aside0.mk (blk_below (g := gb199) (o := .cells #[.int .i32 t191, .int .i32 t192, .int .i32 t193, .int .u8 t194, .int .u8 t195, .int .u8 t196, .int .u8 t197] 26 (0, 0)) (by (with_reducible repeat (first | refine blk_drewN ?_ _ | refine blk_drew ?_ | refine blk_alloc ?_ _)); exact BK199.out) hb)
          have n7_ := Aside0.mk (blk_below (g := gb207) (o := .cells #[.int .i32 t200, .int .i32 t201, .int .i32 t202, .int .u8 t203, .int .u8 t204, .int .u8 t205, .int .u8 t206] 26 (0, 0)) (by (with_reducible repeat (first | refine blk_drewN ?_ _ | refine blk_drew ?_ | refine blk_alloc ?_ _)); exact BK207.out) hb)
          have n8_ := Aside0.mk (below_step (by repeat (first | (with_reducible first | exact HB.out | apply below_alloc | apply pw_below_drewN | apply below_drew1 | refine below_set ?_ GE190.out | refine below_set ?_ GE199.out | refine below_set ?_ GE207.out) | exact HB.out)) hb)
          clear HO210
          clear HO213
          clear HO217
          clear HO228
          clear BK190
          clear BK199
          clear BK207
          clear HB
          have HO210 := n0_
          have HO213 := n1_
          have HO217 := n2_
          have HO228 := n3_
          have HO232 := n4_
          have BK190 := n5_
          have BK199 := n6_
          have BK207 := n7_
          have HB := n8_
          clear n0_ n1_ n2_ n3_ n4_ n5_ n6_ n7_ n8_
          clear hb ho40
          obtain ⟨Ao41, co41, eo41⟩ := Kd.R_slice HO217.out
          (first | subst eo41 | (injection eo41 with f1_ f2_ f3_; have f4_ := f1_.symm; have f5_ := f3_.symm; clear f1_ f2_ f3_; subst f4_; subst f5_))
          obtain ⟨Ao42, co42, eo42⟩ := Kd.R_slice HO232.out
          (first | subst eo42 | (injection eo42 with f1_ f2_ f3_; have f4_ := f1_.symm; have f5_ := f3_.symm; clear f1_ f2_ f3_; subst f4_; subst f5_))
          refine hK.out _ _ ⟨(blk_cell BK207.out 0).trans rfl, (blk_cell BK207.out 1).trans rfl, (blk_cell BK207.out 2).trans rfl, (blk_cell BK207.out 3).trans rfl, (blk_cell BK207.out 4).trans rfl, (blk_cell BK207.out 5).trans rfl, (blk_cell BK207.out 6).trans rfl, (blk_cell BK190.out 0).trans rfl, (blk_cell BK190.out 1).trans rfl, (blk_cell BK190.out 2).trans rfl, (blk_cell BK190.out 3).trans rfl, (blk_cell BK190.out 4).trans rfl, (blk_cell BK190.out 5).trans rfl, (blk_cell BK190.out 6).trans rfl, (blk_cell BK199.out 0).trans rfl, (blk_cell BK199.out 1).trans rfl, (blk_cell BK199.out 2).trans rfl, (blk_cell BK199.out 3).trans rfl, (blk_cell BK199.out 4).trans rfl, (blk_cell BK199.out 5).trans rfl, (blk_cell BK199.out 6).trans rfl⟩ (fun hHeld => ?_)
          clear hK K
          refine norm_ (a' := ?_) ?_ ?_
          rotate_left
          · show Act.put _ (some 54) _ = _
            simp only [Act.put, List.setIfInBounds_toArray, List.set_cons_zero, List.set_cons_succ, i64_w, i32_w]
            rfl
          refine one_ (i := 21) (N := some 55) #[true, true, true, true, true, true, true, true, true, true, true, true, true, true, true, true, true, true, true, true, true, true, false, false, false, false, false, false, false] rfl rfl (one_of HT_.out (by kernel_rfl)) (by decide) (fun K hK => ?_)
          refine goes_ Try.func38 (by kernel_rfl) rfl #[.slice Ao41 t215.length co41, .slice Ao42 y230.length co42] (by rfl) rfl rfl (by (try simp only [List.map_toArray, List.map_cons, List.map_nil]); first | done | rfl | (simp only [List.length_drop, List.length_take]; rfl)) ?_
          with_reducible refine (line_Same.calls k _ _ t215 _ _ y230 true _ ?side1 ?side2 ?side3 ?side4 A12.out).mono ?_
          (case side1 => repeat (first | exact (Kd.R_reads' HO217.out).2.2 | (with_reducible refine Kd.C_alloc ?_ _) | (with_reducible refine Kd.C_drewN ?_ _) | (with_reducible refine Kd.C_drew ?_)))
          (case side2 => exact (Kd.R_reads' HO217.out).2.1)
          (case side3 => repeat (first | exact (Kd.R_reads' HO232.out).2.2 | (with_reducible refine Kd.C_alloc ?_ _) | (with_reducible refine Kd.C_drewN ?_ _) | (with_reducible refine Kd.C_drew ?_)))
          (case side4 => exact (Kd.R_reads' HO232.out).2.1)
          rintro e w' ⟨rfl, ⟨nd, rfl⟩⟩
          refine ⟨_, rfl, ?_⟩
          refine hK.out _ _ ⟨(blk_cell BK207.out 0).trans rfl, (blk_cell BK207.out 1).trans rfl, (blk_cell BK207.out 2).trans rfl, (blk_cell BK207.out 3).trans rfl, (blk_cell BK207.out 4).trans rfl, (blk_cell BK207.out 5).trans rfl, (blk_cell BK207.out 6).trans rfl, (blk_cell BK190.out 0).trans rfl, (blk_cell BK190.out 1).trans rfl, (blk_cell BK190.out 2).trans rfl, (blk_cell BK190.out 3).trans rfl, (blk_cell BK190.out 4).trans rfl, (blk_cell BK190.out 5).trans rfl, (blk_cell BK190.out 6).trans rfl, (blk_cell BK199.out 0).trans rfl, (blk_cell BK199.out 1).trans rfl, (blk_cell BK199.out 2).trans rfl, (blk_cell BK199.out 3).trans rfl, (blk_cell BK199.out 4).trans rfl, (blk_cell BK199.out 5).trans rfl, (blk_cell BK199.out 6).trans rfl⟩ (fun hHeld => ?_)
          clear hK K
          refine norm_ (a' := ?_) ?_ ?_
          rotate_left
          · show Act.put _ (some 55) _ = _
            simp only [Act.put, List.setIfInBounds_toArray, List.set_cons_zero, List.set_cons_succ, i64_w, i32_w]
            rfl
          refine pure_ (i := 22) (N := some 56) (v := ?_) (a' := ?_) #[true, true, true, true, true, true, true, true, true, true, true, true, true, true, true, true, true, true, true, true, true, true, true, false, false, false, false, false, false] rfl rfl (any_of HT_.out (by kernel_rfl)) (fun _ _ _ h => h) (Or.inl ⟨by rfl, ?_⟩) ?_ ?_
          rotate_left
          · intro w'
            go_simp
            with_reducible rfl
          rotate_left
          · simp only [Act.put, List.setIfInBounds_toArray, List.set_cons_zero, List.set_cons_succ, i64_w, i32_w]
            rfl
          refine pure_ (i := 23) (N := some 57) (v := ?_) (a' := ?_) #[true, true, true, true, true, true, true, true, true, true, true, true, true, true, true, true, true, true, true, true, true, true, true, true, false, false, false, false, false] rfl rfl (any_of HT_.out (by kernel_rfl)) (fun _ _ _ h => h) (Or.inl ⟨by rfl, ?_⟩) ?_ ?_
          rotate_left
          · intro w'
            go_simp
            with_reducible rfl
          rotate_left
          · simp only [Act.put, List.setIfInBounds_toArray, List.set_cons_zero, List.set_cons_succ, i64_w, i32_w]
            rfl
          refine pure_ (i := 24) (N := some 58) (v := ?_) (a' := ?_) #[true, true, true, true, true, true, true, true, true, true, true, true, true, true, true, true, true, true, true, true, true, true, true, true, true, false, false, false, false] rfl rfl (any_of HT_.out (by kernel_rfl)) (fun _ _ _ h => h) (Or.inl ⟨by rfl, ?_⟩) ?_ ?_
          rotate_left
          · intro w'
            go_simp
            with_reducible rfl
          rotate_left
          · simp only [Act.put, List.setIfInBounds_toArray, List.set_cons_zero, List.set_cons_succ, i64_w, i32_w]
            rfl
          refine take_ (i := 25) (N := some 59) (v := ?_) (a' := ?_) #[true, true, true, true, true, true, true, true, true, true, true, true, true, true, true, true, true, true, true, true, true, true, true, true, true, true, false, false, false] rfl rfl (take_ofW HT_.out HW_.out (by kernel_rfl)) (fun _ _ _ h => h) (Or.inl ⟨by rfl, ?_⟩) hHeld ?_ ?_
          rotate_left
          · rintro w' ⟨s0, s1, s2, s3, s4, s5, s6, s7, s8, s9, s10, s11, s12, s13, s14, s15, s16, s17, s18, s19, s20⟩
            go_simp
            with_reducible rfl
          rotate_left
          · simp only [Act.put, List.setIfInBounds_toArray, List.set_cons_zero, List.set_cons_succ, i64_w, i32_w]
            rfl
          refine pure_ (i := 26) (N := some 60) (v := ?_) (a' := ?_) #[true, true, true, true, true, true, true, true, true, true, true, true, true, true, true, true, true, true, true, true, true, true, true, true, true, true, true, false, false] rfl rfl (any_of HT_.out (by kernel_rfl)) (fun _ _ _ h => h) (Or.inl ⟨by rfl, ?_⟩) ?_ ?_
          rotate_left
          · intro w'
            go_simp
            with_reducible rfl
          rotate_left
          · simp only [Act.put, List.setIfInBounds_toArray, List.set_cons_zero, List.set_cons_succ, i64_w, i32_w]
            rfl
          refine pure_ (i := 27) (N := some 61) (v := ?_) (a' := ?_) #[true, true, true, true, true, true, true, true, true, true, true, true, true, true, true, true, true, true, true, true, true, true, true, true, true, true, true, true, false] rfl rfl (any_of HT_.out (by kernel_rfl)) (fun _ _ _ h => h) (Or.inl ⟨by rfl, ?_⟩) ?_ ?_
          rotate_left
          · intro w'
            go_simp
            with_reducible rfl
          rotate_left
          · simp only [Act.put, List.setIfInBounds_toArray, List.set_cons_zero, List.set_cons_succ, i64_w, i32_w]
            rfl
          refine pure_ (i := 28) (N := some 0) (v := ?_) (a' := ?_) #[true, true, true, true, true, true, true, true, true, true, true, true, true, true, true, true, true, true, true, true, true, true, true, true, true, true, true, true, true] rfl rfl (any_of HT_.out (by kernel_rfl)) (fun _ _ _ h => h) (Or.inl ⟨by rfl, ?_⟩) ?_ ?_
          rotate_left
          · intro w'
            go_simp
            with_reducible rfl
          rotate_left
          · simp only [Act.put, List.setIfInBounds_toArray, List.set_cons_zero, List.set_cons_succ, i64_w, i32_w]
            rfl
          refine done_ (done_of HT_.out (by kernel_rfl)) ?_
          try go_wp2
          go_ret
          exact ⟨by first | rfl | (simp <;> rfl) | (simp [*] <;> rfl), by repeat (first | (with_reducible first | exact HB.out | apply below_alloc | apply pw_below_drewN | apply below_drew1 | refine below_set ?_ GE190.out | refine below_set ?_ GE199.out | refine below_set ?_ GE207.out) | exact HB.out)⟩
        · replace c13 := Bool.eq_false_iff.mpr c13
          subst c13
          have H1 : (some false) = some r := by rw [if_neg (show ¬ (false = true) by decide)] at H; exact H
          rw [HRT.out] at H1; cases H1
      · replace c11 := Bool.eq_false_iff.mpr c11
        subst c11
        have H1 : (some false) = some r := by rw [if_neg (show ¬ (false = true) by decide)] at H; exact H
        rw [HRT.out] at H1; cases H1
    · replace c10 := Bool.eq_false_iff.mpr c10
      subst c10
      have H1 : (some false) = some r := by rw [if_neg (show ¬ (false = true) by decide)] at H; exact H
      rw [HRT.out] at H1; cases H1
  · replace c7 := Bool.eq_false_iff.mpr c7
    subst c7
    have H1 : (some false) = some r := by rw [if_neg (show ¬ (false = true) by decide)] at H; exact H
    rw [HRT.out] at H1; cases H1/-! ### prolepsislaw06_known: function 41: of own contracts -/
def prolepsislaw06_known.f  : Option (Bool) := some true
theorem prolepsislaw06_known.calls  (r : Bool) (w : World) (h : prolepsislaw06_known.f  = some r) :
    Calls Try.prog 41 #[] w fun e w' => e = .returned (.bool r) ∧ Below w.heap.size w w' := by
  cases h
  exact prolepsislaw06_knownB.calls 100 true w (by decide +kernel) rfl

/-! ### prolepsislaw05_Of: function 18 -/
def prolepsislaw05_Of.f (a0_0 : Int) (a0_1 : Int) (a0_2 : Int) (a0_3 : Int) (a0_4 : Int) (a0_5 : Int) (a0_6 : Int) : Option (Int × Int × Int × Int × Int × Int × Int) := some (wrap64 (a0_0), wrap64 (a0_1), wrap64 (a0_2), a0_3, a0_4, a0_5, a0_6)
set_option maxHeartbeats 8000000 in
set_option maxRecDepth 100000 in
theorem prolepsislaw05_Of.calls (a0_0 : Int) (a0_1 : Int) (a0_2 : Int) (a0_3 : Int) (a0_4 : Int) (a0_5 : Int) (a0_6 : Int) (r1 : Int) (r2 : Int) (r3 : Int) (r4 : Int) (r5 : Int) (r6 : Int) (r7 : Int) (w : World) (h : prolepsislaw05_Of.f a0_0 a0_1 a0_2 a0_3 a0_4 a0_5 a0_6 = some (r1, r2, r3, r4, r5, r6, r7)) :
    Calls Try.prog 18 #[.agg #[.int .i32 a0_0, .int .i32 a0_1, .int .i32 a0_2, .int .u8 a0_3, .int .u8 a0_4, .int .u8 a0_5, .int .u8 a0_6]] w fun e w' => e = .returned (.agg #[.int .i64 r1, .int .i64 r2, .int .i64 r3, .int .u8 r4, .int .u8 r5, .int .u8 r6, .int .u8 r7]) ∧ Below w.heap.size w w' := by
  have hu26 := Try.underlying26
  have hu32 := Try.underlying32
  have hu29 := Try.underlying29
  have hu24 := Try.underlying24
  have HB := Aside0.mk (Below.refl w.heap.size w)
  have H : (some (wrap64 (a0_0), wrap64 (a0_1), wrap64 (a0_2), a0_3, a0_4, a0_5, a0_6)) = some (r1, r2, r3, r4, r5, r6, r7) := h
  clear h
  simp only [Option.some.injEq, Prod.mk.injEq] at H
  obtain ⟨rfl, rfl, rfl, rfl, rfl, rfl, rfl⟩ := H
  go_enter Try.func18, Try.ntmps18
  go_wp2_with (first | ((with_reducible refine gate_dst (N := 1) rfl ?_); refine box_event ?hg (N := 1) ?hd (cs := #[.int .i32 a0_0, .int .i32 a0_1, .int .i32 a0_2, .int .u8 a0_3, .int .u8 a0_4, .int .u8 a0_5, .int .u8 a0_6]) (t := 26) ?hr ?_; (case hd => rfl); (case hg => rfl); (case hr => first | (go_simp; done) | (go_simp; rfl)); intro gb185 hg w2 hbox hb; have n0_ := Aside0.mk (below_step (by repeat (first | (with_reducible first | exact HB.out | apply below_alloc | apply pw_below_drewN | apply below_drew1) | exact HB.out)) hb); have n1_ := Aside0.mk (hbox); have n2_ := Aside0.mk ((by rw [hg]; exact (below_size (by repeat (first | (with_reducible first | exact HB.out | apply below_alloc | apply pw_below_drewN | apply below_drew1) | exact HB.out))) : w.heap.size ≤ gb185)); have n3_ := Aside0.mk ((by rw [hg]; exact (below_size (by repeat (first | (with_reducible first | exact HB.out | apply below_alloc | apply pw_below_drewN | apply below_drew1) | exact HB.out))) : w.heap.size ≤ gb185)); clear HB; have HB := n0_; have BK185 := n1_; have GW185 := n2_; have GE185 := n3_; clear n0_ n1_ n2_ n3_; clear hb hbox hg) | ((with_reducible refine gate_dst (N := 2) rfl ?_); refine box_event ?hg (N := 2) ?hd (cs := #[.int .i64 0, .int .i64 0, .int .i64 0, .int .u8 0, .int .u8 0, .int .u8 0, .int .u8 0]) (t := 32) ?hr ?_; (case hd => rfl); (case hg => rfl); (case hr => first | (go_simp; done) | (go_simp; rfl)); intro gb186 hg w3 hbox hb; have n0_ := Aside0.mk (blk_below (g := gb185) (o := .cells #[.int .i32 a0_0, .int .i32 a0_1, .int .i32 a0_2, .int .u8 a0_3, .int .u8 a0_4, .int .u8 a0_5, .int .u8 a0_6] 26 (0, 0)) (by (with_reducible repeat (first | refine blk_drewN ?_ _ | refine blk_drew ?_ | refine blk_alloc ?_ _)); exact BK185.out) hb); have n1_ := Aside0.mk (below_step (by repeat (first | (with_reducible first | exact HB.out | apply below_alloc | apply pw_below_drewN | apply below_drew1 | refine below_set ?_ GE185.out) | exact HB.out)) hb); have n2_ := Aside0.mk (hbox); have n3_ := Aside0.mk ((by rw [hg]; exact (below_size (by repeat (first | (with_reducible first | exact HB.out | apply below_alloc | apply pw_below_drewN | apply below_drew1 | refine below_set ?_ GE185.out) | exact HB.out))) : w.heap.size ≤ gb186)); have n4_ := Aside0.mk ((by rw [hg]; exact (below_size (by repeat (first | (with_reducible first | exact HB.out | apply below_alloc | apply pw_below_drewN | apply below_drew1 | refine below_set ?_ GE185.out) | exact HB.out))) : w.heap.size ≤ gb186)); have n5_ := Aside0.mk ((by rw [hg]; exact Nat.ne_of_lt (blk_lt (g := gb185) (o := .cells #[.int .i32 a0_0, .int .i32 a0_1, .int .i32 a0_2, .int .u8 a0_3, .int .u8 a0_4, .int .u8 a0_5, .int .u8 a0_6] 26 (0, 0)) (by (with_reducible repeat (first | refine blk_drewN ?_ _ | refine blk_drew ?_ | refine blk_alloc ?_ _)); exact BK185.out)) : gb185 ≠ gb186)); have n6_ := Aside0.mk ((by rw [hg]; exact Nat.ne_of_gt (blk_lt (g := gb185) (o := .cells #[.int .i32 a0_0, .int .i32 a0_1, .int .i32 a0_2, .int .u8 a0_3, .int .u8 a0_4, .int .u8 a0_5, .int .u8 a0_6] 26 (0, 0)) (by (with_reducible repeat (first | refine blk_drewN ?_ _ | refine blk_drew ?_ | refine blk_alloc ?_ _)); exact BK185.out)) : gb186 ≠ gb185)); clear BK185; clear HB; have BK185 := n0_; have HB := n1_; have BK186 := n2_; have GW186 := n3_; have GE186 := n4_; have NB185_186 := n5_; have NB186_185 := n6_; clear n0_ n1_ n2_ n3_ n4_ n5_ n6_; clear hb hbox hg; have hnb4 := NB185_186.out; have hnc4 := NB186_185.out; have hcz5_0 : w3.cell? ⟨gb185, 0, none⟩ = some (.int .i32 a0_0) := (blk_cell BK185.out 0).trans rfl; have hcz5_1 : w3.cell? ⟨gb185, 1, none⟩ = some (.int .i32 a0_1) := (blk_cell BK185.out 1).trans rfl; have hcz5_2 : w3.cell? ⟨gb185, 2, none⟩ = some (.int .i32 a0_2) := (blk_cell BK185.out 2).trans rfl; have hcz5_3 : w3.cell? ⟨gb185, 3, none⟩ = some (.int .u8 a0_3) := (blk_cell BK185.out 3).trans rfl; have hcz5_4 : w3.cell? ⟨gb185, 4, none⟩ = some (.int .u8 a0_4) := (blk_cell BK185.out 4).trans rfl; have hcz5_5 : w3.cell? ⟨gb185, 5, none⟩ = some (.int .u8 a0_5) := (blk_cell BK185.out 5).trans rfl; have hcz5_6 : w3.cell? ⟨gb185, 6, none⟩ = some (.int .u8 a0_6) := (blk_cell BK185.out 6).trans rfl; have hfz5_0 := blk_frozen BK185.out 0; have hfz5_1 := blk_frozen BK185.out 1; have hfz5_2 := blk_frozen BK185.out 2; have hfz5_3 := blk_frozen BK185.out 3; have hfz5_4 := blk_frozen BK185.out 4; have hfz5_5 := blk_frozen BK185.out 5; have hfz5_6 := blk_frozen BK185.out 6; have hcz6_0 : w3.cell? ⟨gb186, 0, none⟩ = some (.int .i64 0) := (blk_cell BK186.out 0).trans rfl; have hcz6_1 : w3.cell? ⟨gb186, 1, none⟩ = some (.int .i64 0) := (blk_cell BK186.out 1).trans rfl; have hcz6_2 : w3.cell? ⟨gb186, 2, none⟩ = some (.int .i64 0) := (blk_cell BK186.out 2).trans rfl; have hcz6_3 : w3.cell? ⟨gb186, 3, none⟩ = some (.int .u8 0) := (blk_cell BK186.out 3).trans rfl; have hcz6_4 : w3.cell? ⟨gb186, 4, none⟩ = some (.int .u8 0) := (blk_cell BK186.out 4).trans rfl; have hcz6_5 : w3.cell? ⟨gb186, 5, none⟩ = some (.int .u8 0) := (blk_cell BK186.out 5).trans rfl; have hcz6_6 : w3.cell? ⟨gb186, 6, none⟩ = some (.int .u8 0) := (blk_cell BK186.out 6).trans rfl; have hfz6_0 := blk_frozen BK186.out 0; have hfz6_1 := blk_frozen BK186.out 1; have hfz6_2 := blk_frozen BK186.out 2; have hfz6_3 := blk_frozen BK186.out 3; have hfz6_4 := blk_frozen BK186.out 4; have hfz6_5 := blk_frozen BK186.out 5; have hfz6_6 := blk_frozen BK186.out 6))
  refine bodyPost_ret (results_cell_row rfl _ _ gb186 32 #[.int .i64 (wrap64 (a0_0)), .int .i64 (wrap64 (a0_1)), .int .i64 (wrap64 (a0_2)), .int .u8 a0_3, .int .u8 a0_4, .int .u8 a0_5, .int .u8 a0_6] (0, 0) _ rfl (by (with_reducible repeat (first | refine blk_drewN ?_ _ | refine blk_drew ?_ | refine blk_alloc ?_ _)); refine blk_put (cs := #[.int .i64 (wrap64 (a0_0)), .int .i64 (wrap64 (a0_1)), .int .i64 (wrap64 (a0_2)), .int .u8 a0_3, .int .u8 a0_4, .int .u8 a0_5, .int .u8 0]) ?_ 6 _ rfl; (with_reducible repeat (first | refine blk_drewN ?_ _ | refine blk_drew ?_ | refine blk_alloc ?_ _)); refine blk_put (cs := #[.int .i64 (wrap64 (a0_0)), .int .i64 (wrap64 (a0_1)), .int .i64 (wrap64 (a0_2)), .int .u8 a0_3, .int .u8 a0_4, .int .u8 0, .int .u8 0]) ?_ 5 _ rfl; (with_reducible repeat (first | refine blk_drewN ?_ _ | refine blk_drew ?_ | refine blk_alloc ?_ _)); refine blk_put (cs := #[.int .i64 (wrap64 (a0_0)), .int .i64 (wrap64 (a0_1)), .int .i64 (wrap64 (a0_2)), .int .u8 a0_3, .int .u8 0, .int .u8 0, .int .u8 0]) ?_ 4 _ rfl; (with_reducible repeat (first | refine blk_drewN ?_ _ | refine blk_drew ?_ | refine blk_alloc ?_ _)); refine blk_put (cs := #[.int .i64 (wrap64 (a0_0)), .int .i64 (wrap64 (a0_1)), .int .i64 (wrap64 (a0_2)), .int .u8 0, .int .u8 0, .int .u8 0, .int .u8 0]) ?_ 3 _ rfl; (with_reducible repeat (first | refine blk_drewN ?_ _ | refine blk_drew ?_ | refine blk_alloc ?_ _)); refine blk_put (cs := #[.int .i64 (wrap64 (a0_0)), .int .i64 (wrap64 (a0_1)), .int .i64 0, .int .u8 0, .int .u8 0, .int .u8 0, .int .u8 0]) ?_ 2 _ rfl; (with_reducible repeat (first | refine blk_drewN ?_ _ | refine blk_drew ?_ | refine blk_alloc ?_ _)); refine blk_put (cs := #[.int .i64 (wrap64 (a0_0)), .int .i64 0, .int .i64 0, .int .u8 0, .int .u8 0, .int .u8 0, .int .u8 0]) ?_ 1 _ rfl; (with_reducible repeat (first | refine blk_drewN ?_ _ | refine blk_drew ?_ | refine blk_alloc ?_ _)); refine blk_put (cs := #[.int .i64 0, .int .i64 0, .int .i64 0, .int .u8 0, .int .u8 0, .int .u8 0, .int .u8 0]) ?_ 0 _ rfl; (with_reducible repeat (first | refine blk_drewN ?_ _ | refine blk_drew ?_ | refine blk_alloc ?_ _)); exact BK186.out) Try.underlying32 rfl (by kernel_rfl)) rfl ?_
  exact ⟨by first | rfl | (simp <;> rfl) | (simp [*] <;> rfl), by repeat (first | (with_reducible first | exact HB.out | apply below_alloc | apply pw_below_drewN | apply below_drew1 | refine below_set ?_ GE185.out | refine below_set ?_ GE186.out) | exact HB.out)⟩

/-! ### prolepsislaw06_Of: function 42 -/
def prolepsislaw06_Of.l0 : Nat → List (S26) → List (S32) → Int → Option ((List (S32)))
  | 0, _, _, _ => none
  | k + 1, x0, x3, x4 => if x4 < (x0.length : Int) then (if 0 ≤ x4 then ((prolepsislaw05_Of.f ((rd_T26 x0 x4).f0) ((rd_T26 x0 x4).f1.f0) ((rd_T26 x0 x4).f1.f1) ((rd_T26 x0 x4).f2) ((rd_T26 x0 x4).f3.f0) ((rd_T26 x0 x4).f3.f1) ((rd_T26 x0 x4).f3.f2)).bind fun bt188 => (if x3.length < 4398046511104 then (prolepsislaw06_Of.l0 k x0 (x3 ++ [(⟨bt188.1, (⟨bt188.2.1, bt188.2.2.1⟩ : S29), bt188.2.2.2.1, (⟨bt188.2.2.2.2.1, bt188.2.2.2.2.2.1, bt188.2.2.2.2.2.2⟩ : S30)⟩ : S32)]) (wrap64 (x4 + 1))) else (none))) else (none)) else (some x3)
def prolepsislaw06_Of.f (k : Nat) (l0 : List (S26)) : Option ((List (S32))) := prolepsislaw06_Of.l0 k l0 ([] : List (S32)) 0
set_option maxHeartbeats 8000000 in
set_option maxRecDepth 100000 in
theorem prolepsislaw06_Of.calls (k : Nat) (A0 : Option Addr) (c0 : Nat) (l0 : List (S26)) (r : List (S32)) (w : World) (hr0 : Kd.C k26 w A0 l0.length l0) (hc0 : l0.length ≤ c0) (h : prolepsislaw06_Of.f k l0 = some r) :
    Calls Try.prog 42 #[.slice A0 l0.length c0] w fun e w' => ∃ v0_ : Value, e = .returned (v0_) ∧ Kd.R k32 32 w' w.heap.size (fun _ => True) v0_ r ∧ Below w.heap.size w w' := by
  have hu26 := Try.underlying26
  have HR0 := Aside0.mk hr0
  have HC0 := Aside0.mk hc0
  clear hr0 hc0
  have HB := Aside0.mk (Below.refl w.heap.size w)
  have H : (prolepsislaw06_Of.l0 k l0 ([] : List (S32)) 0) = some r := h
  clear h
  have H' := Aside0.mk H
  clear H
  go_enter Try.func42, Try.ntmps42
  go_wp2
  go_loopg [3, 4] k (fun kq v3 v4 w' => ∃ (x3_1 : List (S32)) (x4_1 : Int), v4 = .int .i64 x4_1 ∧ Aside0 (prolepsislaw06_Of.l0 kq l0 x3_1 x4_1 = some r) ∧ Aside0 (kq ≤ k) ∧ Aside0 (Kd.R k32 32 w' w.heap.size (fun _ => True) v3 x3_1) ∧ Aside0 (Below w.heap.size w w'))
  case atStart => exact ⟨(([] : List (S32))), (0), (by first | rfl | (simp; done) | (simp [*]; done)), H', ⟨Nat.le_refl _⟩, ⟨by first | exact Kd.R_nil _ _ _ _ _ | exact Kd.N_nil _ _ _ _ _ | exact Kd.V_nil _ _ _ _ _ | exact Kd.Q_nil _ _ _ _ _ | exact Kd.S_nil _ _ _ _ _⟩, ⟨by repeat (first | (with_reducible first | exact HB.out | apply below_alloc | apply pw_below_drewN | apply below_drew1) | exact HB.out)⟩⟩
  case round =>
    clear H'
    obtain ⟨x3_1, x4_1, rfl, HA, HK1, HO_3, HB⟩ := hrel
    cases gk with
    | zero => exact absurd HA.out (by simp [prolepsislaw06_Of.l0])
    | succ k1 =>
      have H := HA.out
      clear HA
      simp only [prolepsislaw06_Of.l0] at H
      by_cases c2 : x4_1 < (l0.length : Int)
      · rw [if_pos c2] at H
        have c2b0 : decide (x4_1 < (l0.length : Int)) = true := decide_eq_true c2
        clear c2
        by_cases c3 : 0 ≤ x4_1
        · rw [if_pos c3] at H
          have c3b0 : decide (0 ≤ x4_1) = true := decide_eq_true c3
          clear c3
          replace H := Option.bind_eq_some_iff.mp H
          obtain ⟨⟨t188, t189, t190, t191, t192, t193, t194⟩, A40, H⟩ := H
          replace H : (if x3_1.length < 4398046511104 then (prolepsislaw06_Of.l0 k1 l0 (x3_1 ++ [(⟨t188, (⟨t189, t190⟩ : S29), t191, (⟨t192, t193, t194⟩ : S30)⟩ : S32)]) (wrap64 (x4_1 + 1))) else (none)) = some r := H
          have A4 := Aside0.mk A40
          clear A40
          by_cases c5 : x3_1.length < 4398046511104
          · rw [if_pos c5] at H
            have LMc5 := Aside0.mk c5
            clear c5
            obtain ⟨y195, hy195⟩ : ∃ y_ : List (S32), y_ = (x3_1 ++ [(⟨t188, (⟨t189, t190⟩ : S29), t191, (⟨t192, t193, t194⟩ : S30)⟩ : S32)]) := ⟨_, rfl⟩
            replace H : (prolepsislaw06_Of.l0 k1 l0 y195 (wrap64 (x4_1 + 1))) = some r := by first | (rw [hy195]; with_reducible exact H) | (have H2_ := (Option.bind_some _ _).symm.trans H; rw [hy195]; with_reducible exact H2_) | (have H2_ := (Option.bind_some _ _).symm.trans H; with_reducible exact H2_) | with_reducible exact H | (rw [hy195]; exact H) | exact H
            have Ny195 := Aside0.mk hy195
            clear hy195
            have H' := Aside0.mk H
            clear H
            have p187 : 0 ≤ (x4_1 : Int) := of_decide_eq_true (by first | (with_reducible assumption) | assumption)
            have q187 : x4_1 < (l0.length : Int) := of_decide_eq_true (by first | (with_reducible assumption) | assumption)
            obtain ⟨ad187, e187, hx187_0, hx187_1, hx187_2, hx187_3, hx187_4, hx187_5, hx187_6⟩ := at_T26 HR0.out x4_1 p187 q187
            cases e187
            replace hx187_0 := (HB.out.cell (World.block_lt_of_cell? w _ hx187_0)).trans hx187_0
            replace hx187_1 := (HB.out.cell (World.block_lt_of_cell? w _ hx187_1)).trans hx187_1
            replace hx187_2 := (HB.out.cell (World.block_lt_of_cell? w _ hx187_2)).trans hx187_2
            replace hx187_3 := (HB.out.cell (World.block_lt_of_cell? w _ hx187_3)).trans hx187_3
            replace hx187_4 := (HB.out.cell (World.block_lt_of_cell? w _ hx187_4)).trans hx187_4
            replace hx187_5 := (HB.out.cell (World.block_lt_of_cell? w _ hx187_5)).trans hx187_5
            replace hx187_6 := (HB.out.cell (World.block_lt_of_cell? w _ hx187_6)).trans hx187_6
            replace p187 := eq_true p187
            replace q187 := eq_true q187
            go_wp2_with (first | ((with_reducible refine gate_callee (f := 18) rfl ?_); refine goesL_ (some 16) rfl rfl Try.func18 (by kernel_rfl) rfl #[.agg #[.int .i32 ((rd_T26 l0 x4_1).f0), .int .i32 ((rd_T26 l0 x4_1).f1.f0), .int .i32 ((rd_T26 l0 x4_1).f1.f1), .int .u8 ((rd_T26 l0 x4_1).f2), .int .u8 ((rd_T26 l0 x4_1).f3.f0), .int .u8 ((rd_T26 l0 x4_1).f3.f1), .int .u8 ((rd_T26 l0 x4_1).f3.f2)]] rfl (by (try simp only [List.map_toArray, List.map_cons, List.map_nil]); first | done | rfl | (simp only [List.length_drop, List.length_take]; rfl)) ?_; (with_reducible refine (prolepsislaw05_Of.calls ((rd_T26 l0 x4_1).f0) ((rd_T26 l0 x4_1).f1.f0) ((rd_T26 l0 x4_1).f1.f1) ((rd_T26 l0 x4_1).f2) ((rd_T26 l0 x4_1).f3.f0) ((rd_T26 l0 x4_1).f3.f1) ((rd_T26 l0 x4_1).f3.f2) t188 t189 t190 t191 t192 t193 t194 _ A4.out).mono ?_); rintro e w6 ⟨rfl, hb⟩; refine ⟨_, rfl, ?_⟩; have n0_ := Aside0.mk (Kd.R_below (by (with_reducible repeat (first | apply Kd.R_alloc | apply Kd.R_drewN | apply Kd.R_drew)); exact HO_3.out) hb); have n1_ := Aside0.mk (below_step (by repeat (first | (with_reducible first | exact HB.out | apply below_alloc | apply pw_below_drewN | apply below_drew1) | exact HB.out)) hb); clear HO_3; clear HB; have HO_3 := n0_; have HB := n1_; clear n0_ n1_; (try clear hb); (try clear hb2); (try clear hk); (try clear hi)) | ((with_reducible refine gate_builtin (b := .append) (xs := #[.tmp 11, .tmp 17]) rfl ?_); at_builtin; refine Kd.R_append k32 (w0 := w) w.heap.size rfl (.tmp 11) (.tmp 17) 67 32 (.agg #[(.int .i64 0), (.int .i64 0), (.int .i64 0), (.int .u8 0), (.int .u8 0), (.int .u8 0), (.int .u8 0)]) 32 rfl Try.underlying67 info32 rfl (by decide) (by omega) u3 x3_1 (⟨t188, (⟨t189, t190⟩ : S29), t191, (⟨t192, t193, t194⟩ : S30)⟩ : S32) [.int .i64 t188, .int .i64 t189, .int .i64 t190, .int .u8 t191, .int .u8 t192, .int .u8 t193, .int .u8 t194] (fun _ => True) (fun _ => False) rfl rfl ?aP (fun _ hk => hk.elim) ?aF ?aO ?aB ?aS ?aL ?_; (case aP => exact k32_mkM _ _ _ (⟨t188, (⟨t189, t190⟩ : S29), t191, (⟨t192, t193, t194⟩ : S30)⟩ : S32)); (case aB => exact (by repeat (first | (with_reducible first | exact HB.out | apply below_alloc | apply pw_below_drewN | apply below_drew1) | exact HB.out))); (case aF => exact (fun _ _ => trivial)); (case aO => exact (by (with_reducible repeat (first | apply Kd.R_alloc | apply Kd.R_drewN | apply Kd.R_drew)); exact HO_3.out)); (case aS => exact (below_size (by repeat (first | (with_reducible first | exact HB.out | apply below_alloc | apply pw_below_drewN | apply below_drew1) | exact HB.out)))); (case aL => have := LMc5.out; omega); intro v196 w7 ho hb hg hat; rw [← Ny195.out] at ho; have n0_ := Aside0.mk (hb); have n1_ := Aside0.mk (ho); clear HB; clear HO_3; have HB := n0_; have HO197 := n1_; clear n0_ n1_; clear ho hb hg hat))
            go_roundg k1
            case measure => have := HK1.out; omega
            case rel => exact ⟨(y195), (wrap64 (x4_1 + 1)), (by first | rfl | (simp; done) | (simp [*]; done)), H', ⟨by have := HK1.out; omega⟩, ⟨by (with_reducible repeat (first | apply Kd.R_alloc | apply Kd.R_drewN | apply Kd.R_drew)); exact HO197.out⟩, ⟨by repeat (first | (with_reducible first | exact HB.out | apply below_alloc | apply pw_below_drewN | apply below_drew1) | exact HB.out)⟩⟩
          · rw [if_neg c5] at H
            exact absurd H (by simp)
        · rw [if_neg c3] at H
          exact absurd H (by simp)
      · rw [if_neg c2] at H
        have c2b0 : decide (x4_1 < (l0.length : Int)) = false := decide_eq_false c2
        clear c2
        obtain rfl := Option.some.inj H
        go_wp2
        go_ret
        exact ⟨_, by first | rfl | (simp <;> rfl) | (simp [*] <;> rfl), by (with_reducible repeat (first | apply Kd.R_alloc | apply Kd.R_drewN | apply Kd.R_drew)); exact HO_3.out, by repeat (first | (with_reducible first | exact HB.out | apply below_alloc | apply pw_below_drewN | apply below_drew1) | exact HB.out)⟩

end Go.Proofs.Ytblcmcdifgclcaa.PLineAsks
