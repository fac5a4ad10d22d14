/- The law CellStays, where it answers true. -/
import Derived.Test.YtblcmcdifgclcaaPCellStaysx3
namespace Go.Proofs.Ytblcmcdifgclcaa.PCellStays
open Go.RowKit Go.Proofs.YtblcmcdifgclcaaW.PrintWords Go.Proofs.YtblcmcdifgclcaaW.PrintLast Go.Proofs.YtblcmcdifgclcaaW.PrintMore
attribute [local go_sem] max2_int min2_int max_two min_two max_three min_three max_four min_four   -- for this text's walks alone
set_option linter.unusedVariables false
set_option linter.unusedSimpArgs false

/-! ### prolepsislaw05_CellStays: function 5 -/
mutual
def prolepsislaw05_CellStays.j0 : Nat → Int → Bool → Int → Int → Int → Int → Int → Int → Int → Int → Int → Int → Option (Bool)
  | 0, _, _, _, _, _, _, _, _, _, _, _, _ => none
  | k + 1, x1, x19, x178000, x178001, x178002, x178003, x178004, x178005, x178006, x179000, x179001, x179002 => if x19 = true then ((prolepsislaw05_known.f).bind fun t181 => (some t181)) else ((cell_Of.f x1 x179000 x179001 x179002).bind fun bt182 => ((cell_Mark.f x178000 x178001 x178002 x178003 x178004 x178005 x178006 x1).bind fun bt191 => (if bt182.2.2.2.2.2.2.2 = true then ((cell_Right.f bt182.1 bt182.2.1 bt182.2.2.1 bt182.2.2.2.1 bt182.2.2.2.2.1 bt182.2.2.2.2.2.1 bt182.2.2.2.2.2.2.1).bind fun t200 => (if t200 = true then ((cell_Right.f bt191.1 bt191.2.1 bt191.2.2.1 bt191.2.2.2.1 bt191.2.2.2.2.1 bt191.2.2.2.2.2.1 bt191.2.2.2.2.2.2.1).bind fun t201 => (if t201 = true then ((cell_Rest.f x178000 x178001 x178002 x178003 x178004 x178005 x178006).bind fun bt202 => ((cell_Right.f bt202.1 bt202.2.1 bt202.2.2.1 bt202.2.2.2.1 bt202.2.2.2.2.1 bt202.2.2.2.2.2.1 bt202.2.2.2.2.2.2).bind fun t209 => (if t209 = true then ((cell_Blank.f x179000 x179001 x179002).bind fun bt210 => ((cell_Right.f bt210.1 bt210.2.1 bt210.2.2.1 bt210.2.2.2.1 bt210.2.2.2.2.1 bt210.2.2.2.2.2.1 bt210.2.2.2.2.2.2).bind fun t217 => (if t217 = true then ((cell_With.f x178000 x178001 x178002 x178003 x178004 x178005 x178006 x179000 x179001 x179002).bind fun bt218 => ((cell_Right.f bt218.1 bt218.2.1 bt218.2.2.1 bt218.2.2.2.1 bt218.2.2.2.2.1 bt218.2.2.2.2.2.1 bt218.2.2.2.2.2.2).bind fun t225 => (prolepsislaw05_CellStays.j1 k (!t225) x178000 x178001 x178002 x178003 x178004 x178005 x178006))) else (prolepsislaw05_CellStays.j1 k true x178000 x178001 x178002 x178003 x178004 x178005 x178006)))) else (prolepsislaw05_CellStays.j1 k true x178000 x178001 x178002 x178003 x178004 x178005 x178006)))) else (prolepsislaw05_CellStays.j1 k true x178000 x178001 x178002 x178003 x178004 x178005 x178006))) else (prolepsislaw05_CellStays.j1 k true x178000 x178001 x178002 x178003 x178004 x178005 x178006))) else ((cell_Right.f bt191.1 bt191.2.1 bt191.2.2.1 bt191.2.2.2.1 bt191.2.2.2.2.1 bt191.2.2.2.2.2.1 bt191.2.2.2.2.2.2.1).bind fun t226 => (if t226 = true then ((cell_Rest.f x178000 x178001 x178002 x178003 x178004 x178005 x178006).bind fun bt227 => ((cell_Right.f bt227.1 bt227.2.1 bt227.2.2.1 bt227.2.2.2.1 bt227.2.2.2.2.1 bt227.2.2.2.2.2.1 bt227.2.2.2.2.2.2).bind fun t234 => (if t234 = true then ((cell_Blank.f x179000 x179001 x179002).bind fun bt235 => ((cell_Right.f bt235.1 bt235.2.1 bt235.2.2.1 bt235.2.2.2.1 bt235.2.2.2.2.1 bt235.2.2.2.2.2.1 bt235.2.2.2.2.2.2).bind fun t242 => (if t242 = true then ((cell_With.f x178000 x178001 x178002 x178003 x178004 x178005 x178006 x179000 x179001 x179002).bind fun bt243 => ((cell_Right.f bt243.1 bt243.2.1 bt243.2.2.1 bt243.2.2.2.1 bt243.2.2.2.2.1 bt243.2.2.2.2.2.1 bt243.2.2.2.2.2.2).bind fun t250 => (prolepsislaw05_CellStays.j1 k (!t250) x178000 x178001 x178002 x178003 x178004 x178005 x178006))) else (prolepsislaw05_CellStays.j1 k true x178000 x178001 x178002 x178003 x178004 x178005 x178006)))) else (prolepsislaw05_CellStays.j1 k true x178000 x178001 x178002 x178003 x178004 x178005 x178006)))) else (prolepsislaw05_CellStays.j1 k true x178000 x178001 x178002 x178003 x178004 x178005 x178006))))))
def prolepsislaw05_CellStays.j1 : Nat → Bool → Int → Int → Int → Int → Int → Int → Int → Option (Bool)
  | 0, _, _, _, _, _, _, _, _ => none
  | k + 1, x62, x178000, x178001, x178002, x178003, x178004, x178005, x178006 => if x62 = true then (some false) else ((cell_Runes.f x178000 x178001 x178002 x178003 x178004 x178005 x178006).bind fun t251 => (if x178003 = 0 then ((prolepsislaw05_known.f).bind fun t254 => (if t254 = true then (some ((t251.length : Int) == 0)) else (some false))) else ((prolepsislaw05_known.f).bind fun t255 => (if t255 = true then ((width_Total.f k t251).bind fun t256 => (if t256 = (wrap64 (x178003)) then ((width_Clusters.f k t251).bind fun t257 => (some ((t257.length : Int) == 1))) else (some false))) else (some false)))))
end
def prolepsislaw05_CellStays.f (k : Nat) (a0_0 : Int) (a0_1 : Int) (a0_2 : Int) (a0_3 : Int) (a0_4 : Int) (a0_5 : Int) (a0_6 : Int) (a1 : Int) (a2_0 : Int) (a2_1 : Int) (a2_2 : Int) : Option (Bool) := (cell_Right.f a0_0 a0_1 a0_2 a0_3 a0_4 a0_5 a0_6).bind fun t179 => (if t179 = true then ((pen_Right.f a2_0 a2_1 a2_2).bind fun t180 => (prolepsislaw05_CellStays.j0 k a1 (!t180) a0_0 a0_1 a0_2 a0_3 a0_4 a0_5 a0_6 a2_0 a2_1 a2_2)) else (prolepsislaw05_CellStays.j0 k a1 true a0_0 a0_1 a0_2 a0_3 a0_4 a0_5 a0_6 a2_0 a2_1 a2_2))
theorem prolepsislaw05_CellStays.mono_l : ∀ k, (∀ y0 y1 y2 y3 y4 y5 y6 y7 y8 y9 y10 y11, LeO (prolepsislaw05_CellStays.j0 k y0 y1 y2 y3 y4 y5 y6 y7 y8 y9 y10 y11) (prolepsislaw05_CellStays.j0 (k + 1) y0 y1 y2 y3 y4 y5 y6 y7 y8 y9 y10 y11)) ∧ (∀ y0 y1 y2 y3 y4 y5 y6 y7, LeO (prolepsislaw05_CellStays.j1 k y0 y1 y2 y3 y4 y5 y6 y7) (prolepsislaw05_CellStays.j1 (k + 1) y0 y1 y2 y3 y4 y5 y6 y7))
  | 0 => ⟨fun _ _ _ _ _ _ _ _ _ _ _ _ r h => by simp [prolepsislaw05_CellStays.j0] at h, fun _ _ _ _ _ _ _ _ r h => by simp [prolepsislaw05_CellStays.j1] at h⟩
  | k + 1 => by
    obtain ⟨ih0, ih1⟩ := prolepsislaw05_CellStays.mono_l k
    refine ⟨?_, ?_⟩
    · intro y0 y1 y2 y3 y4 y5 y6 y7 y8 y9 y10 y11
      unfold prolepsislaw05_CellStays.j0
      repeat' first
      | (with_reducible exact ih0 _ _ _ _ _ _ _ _ _ _ _ _)
      | (with_reducible exact ih1 _ _ _ _ _ _ _ _)
      | (with_reducible exact width_Clusters.mono _ _)
      | (with_reducible exact width_Total.mono _ _)
      | (with_reducible exact LeO.refl _)
      | (with_reducible exact LeO.none _)
      | (with_reducible refine LeO.ite ?_ ?_)
      | (with_reducible refine LeO.bind ?_ (fun _ => ?_))
      | exact ih0 _ _ _ _ _ _ _ _ _ _ _ _
      | exact ih1 _ _ _ _ _ _ _ _
      | exact width_Clusters.mono _ _
      | exact width_Total.mono _ _
      | exact LeO.none _
      | refine LeO.ite ?_ ?_
      | refine LeO.bind ?_ (fun _ => ?_)
    · intro y0 y1 y2 y3 y4 y5 y6 y7
      unfold prolepsislaw05_CellStays.j1
      repeat' first
      | (with_reducible exact ih0 _ _ _ _ _ _ _ _ _ _ _ _)
      | (with_reducible exact ih1 _ _ _ _ _ _ _ _)
      | (with_reducible exact width_Clusters.mono _ _)
      | (with_reducible exact width_Total.mono _ _)
      | (with_reducible exact LeO.refl _)
      | (with_reducible exact LeO.none _)
      | (with_reducible refine LeO.ite ?_ ?_)
      | (with_reducible refine LeO.bind ?_ (fun _ => ?_))
      | exact ih0 _ _ _ _ _ _ _ _ _ _ _ _
      | exact ih1 _ _ _ _ _ _ _ _
      | exact width_Clusters.mono _ _
      | exact width_Total.mono _ _
      | exact LeO.none _
      | refine LeO.ite ?_ ?_
      | refine LeO.bind ?_ (fun _ => ?_)
theorem prolepsislaw05_CellStays.mono : ∀ a0 a1 a2 a3 a4 a5 a6 a7 a8 a9 a10 k, LeO (prolepsislaw05_CellStays.f k a0 a1 a2 a3 a4 a5 a6 a7 a8 a9 a10) (prolepsislaw05_CellStays.f (k + 1) a0 a1 a2 a3 a4 a5 a6 a7 a8 a9 a10) := by
  intro a0 a1 a2 a3 a4 a5 a6 a7 a8 a9 a10 k
  obtain ⟨ih0, ih1⟩ := prolepsislaw05_CellStays.mono_l k
  unfold prolepsislaw05_CellStays.f
  repeat' first
      | (with_reducible exact ih0 _ _ _ _ _ _ _ _ _ _ _ _)
      | (with_reducible exact ih1 _ _ _ _ _ _ _ _)
      | (with_reducible exact width_Clusters.mono _ _)
      | (with_reducible exact width_Total.mono _ _)
      | (with_reducible exact LeO.refl _)
      | (with_reducible exact LeO.none _)
      | (with_reducible refine LeO.ite ?_ ?_)
      | (with_reducible refine LeO.bind ?_ (fun _ => ?_))
      | exact ih0 _ _ _ _ _ _ _ _ _ _ _ _
      | exact ih1 _ _ _ _ _ _ _ _
      | exact width_Clusters.mono _ _
      | exact width_Total.mono _ _
      | exact LeO.none _
      | refine LeO.ite ?_ ?_
      | refine LeO.bind ?_ (fun _ => ?_)
def prolepsislaw05_CellStays.T10 : Bool × List (List Nat × List Nat) := (true, [([], []), ([0, 0], [0]), ([1], [1]), ([2, 1, 1], [1, 2]), ([1], [1]), ([4, 1], [1, 4]), ([5, 1], [1, 5]), ([3, 6, 1], [1, 3, 6]), ([1, 7], [1, 7]), ([8, 3], [8]), ([9], [9]), ([10, 9, 9], [9, 10]), ([11, 9], [9, 11]), ([12, 9], [9, 12]), ([9, 13], [9, 13]), ([14, 11, 0, 1, 2, 3, 4, 5, 6, 7, 8, 9, 10, 11, 12, 13, 14], [14])])
def prolepsislaw05_CellStays.B10 : List Nat := [0, 1, 3, 7, 3, 19, 51, 127, 255, 511, 1023, 2047, 4095, 8191, 16383, 32767]
theorem prolepsislaw05_CellStays.tab10 : rtab .any (opsOf Try.f5 10) = prolepsislaw05_CellStays.T10 := by kernel_rfl
theorem prolepsislaw05_CellStays.bits10 : waitsOk prolepsislaw05_CellStays.T10.2 prolepsislaw05_CellStays.B10 = true := by kernel_rfl
set_option maxHeartbeats 8000000 in
set_option maxRecDepth 100000 in
theorem prolepsislaw05_CellStays.calls (k : Nat) (a0_0 : Int) (a0_1 : Int) (a0_2 : Int) (a0_3 : Int) (a0_4 : Int) (a0_5 : Int) (a0_6 : Int) (a1 : Int) (a2_0 : Int) (a2_1 : Int) (a2_2 : Int) (r : Bool) (w : World) (h : prolepsislaw05_CellStays.f k a0_0 a0_1 a0_2 a0_3 a0_4 a0_5 a0_6 a1 a2_0 a2_1 a2_2 = some r) (hr : r = true) :
    Calls Try.prog 5 #[.agg #[.int .i32 a0_0, .int .i32 a0_1, .int .i32 a0_2, .int .u8 a0_3, .int .u8 a0_4, .int .u8 a0_5, .int .u8 a0_6], .int .i32 a1, .agg #[.int .u8 a2_0, .int .u8 a2_1, .int .u8 a2_2]] w fun e w' => e = .returned (.bool r) ∧ Below w.heap.size w w' := by
  have HRT := Aside0.mk hr
  clear hr
  have hu26 := Try.underlying26
  have hu24 := Try.underlying24
  have HB := Aside0.mk (Below.refl w.heap.size w)
  have H : ((cell_Right.f a0_0 a0_1 a0_2 a0_3 a0_4 a0_5 a0_6).bind fun t179 => (if t179 = true then ((pen_Right.f a2_0 a2_1 a2_2).bind fun t180 => (prolepsislaw05_CellStays.j0 k a1 (!t180) a0_0 a0_1 a0_2 a0_3 a0_4 a0_5 a0_6 a2_0 a2_1 a2_2)) else (prolepsislaw05_CellStays.j0 k a1 true a0_0 a0_1 a0_2 a0_3 a0_4 a0_5 a0_6 a2_0 a2_1 a2_2))) = some r := h
  clear h
  have HC4 := Aside0.mk H
  clear H
  go_enter Try.func5, Try.ntmps5
  go_upto_region 1 with (first | ((with_reducible refine gate_dst (N := 3) rfl ?_); (try (refine gate_guard (by rfl) ?_; dsimp only)); refine box_event ?hg (N := 3) ?hd (cs := #[.int .i32 a0_0, .int .i32 a0_1, .int .i32 a0_2, .int .u8 a0_3, .int .u8 a0_4, .int .u8 a0_5, .int .u8 a0_6]) (t := 26) ?hr ?_; (case hd => rfl); (case hg => rfl); (case hr => first | (go_simp; done) | (go_simp; rfl)); intro gb177 hg w5 hbox hb; have n0_ := Aside0.mk (below_step (by repeat (first | (with_reducible first | exact HB.out | apply below_alloc | apply pw_below_drewN | apply below_drew1) | exact HB.out)) hb); have n1_ := Aside0.mk (hbox); have n2_ := Aside0.mk ((by rw [hg]; exact (below_size (by repeat (first | (with_reducible first | exact HB.out | apply below_alloc | apply pw_below_drewN | apply below_drew1) | exact HB.out))) : w.heap.size ≤ gb177)); have n3_ := Aside0.mk ((by rw [hg]; exact (below_size (by repeat (first | (with_reducible first | exact HB.out | apply below_alloc | apply pw_below_drewN | apply below_drew1) | exact HB.out))) : w.heap.size ≤ gb177)); clear HB; have HB := n0_; have BK177 := n1_; have GW177 := n2_; have GE177 := n3_; clear n0_ n1_ n2_ n3_; clear hb hbox hg) | ((with_reducible refine gate_dst (N := 5) rfl ?_); (try (refine gate_guard (by rfl) ?_; dsimp only)); refine box_event ?hg (N := 5) ?hd (cs := #[.int .u8 a2_0, .int .u8 a2_1, .int .u8 a2_2]) (t := 24) ?hr ?_; (case hd => rfl); (case hg => rfl); (case hr => first | (go_simp; done) | (go_simp; rfl)); intro gb178 hg w6 hbox hb; have n0_ := Aside0.mk (blk_below (g := gb177) (o := .cells #[.int .i32 a0_0, .int .i32 a0_1, .int .i32 a0_2, .int .u8 a0_3, .int .u8 a0_4, .int .u8 a0_5, .int .u8 a0_6] 26 (0, 0)) (by (with_reducible repeat (first | refine blk_drewN ?_ _ | refine blk_drew ?_ | refine blk_alloc ?_ _)); exact BK177.out) hb); have n1_ := Aside0.mk (below_step (by repeat (first | (with_reducible first | exact HB.out | apply below_alloc | apply pw_below_drewN | apply below_drew1 | refine below_set ?_ GE177.out) | exact HB.out)) hb); have n2_ := Aside0.mk (hbox); have n3_ := Aside0.mk ((by rw [hg]; exact (below_size (by repeat (first | (with_reducible first | exact HB.out | apply below_alloc | apply pw_below_drewN | apply below_drew1 | refine below_set ?_ GE177.out) | exact HB.out))) : w.heap.size ≤ gb178)); have n4_ := Aside0.mk ((by rw [hg]; exact (below_size (by repeat (first | (with_reducible first | exact HB.out | apply below_alloc | apply pw_below_drewN | apply below_drew1 | refine below_set ?_ GE177.out) | exact HB.out))) : w.heap.size ≤ gb178)); have n5_ := Aside0.mk ((by rw [hg]; exact Nat.ne_of_lt (blk_lt (g := gb177) (o := .cells #[.int .i32 a0_0, .int .i32 a0_1, .int .i32 a0_2, .int .u8 a0_3, .int .u8 a0_4, .int .u8 a0_5, .int .u8 a0_6] 26 (0, 0)) (by (with_reducible repeat (first | refine blk_drewN ?_ _ | refine blk_drew ?_ | refine blk_alloc ?_ _)); exact BK177.out)) : gb177 ≠ gb178)); have n6_ := Aside0.mk ((by rw [hg]; exact Nat.ne_of_gt (blk_lt (g := gb177) (o := .cells #[.int .i32 a0_0, .int .i32 a0_1, .int .i32 a0_2, .int .u8 a0_3, .int .u8 a0_4, .int .u8 a0_5, .int .u8 a0_6] 26 (0, 0)) (by (with_reducible repeat (first | refine blk_drewN ?_ _ | refine blk_drew ?_ | refine blk_alloc ?_ _)); exact BK177.out)) : gb178 ≠ gb177)); clear BK177; clear HB; have BK177 := n0_; have HB := n1_; have BK178 := n2_; have GW178 := n3_; have GE178 := n4_; have NB177_178 := n5_; have NB178_177 := n6_; clear n0_ n1_ n2_ n3_ n4_ n5_ n6_; clear hb hbox hg))
  (try simp only [Act.put, List.setIfInBounds_toArray, List.set_cons_zero, List.set_cons_succ])
  go_cut [19] (fun v19 wc => ∃ (kq : Nat) (x19_3 : Bool), v19 = .bool x19_3 ∧ Aside0 (prolepsislaw05_CellStays.j0 kq a1 x19_3 a0_0 a0_1 a0_2 a0_3 a0_4 a0_5 a0_6 a2_0 a2_1 a2_2 = some r) ∧ Aside0 (kq ≤ k) ∧ Aside0 (wc.heap[gb177]? = some (.cells #[.int .i32 a0_0, .int .i32 a0_1, .int .i32 a0_2, .int .u8 a0_3, .int .u8 a0_4, .int .u8 a0_5, .int .u8 a0_6] 26 (0, 0))) ∧ Aside0 (wc.heap[gb178]? = some (.cells #[.int .u8 a2_0, .int .u8 a2_1, .int .u8 a2_2] 24 (0, 0))) ∧ Aside0 (Below w.heap.size w wc))
  case first =>
    have H := HC4.out
    clear HC4
    replace H := Option.bind_eq_some_iff.mp H
    obtain ⟨t179, A70, H⟩ := H
    replace H : (if t179 = true then ((pen_Right.f a2_0 a2_1 a2_2).bind fun t180 => (prolepsislaw05_CellStays.j0 k a1 (!t180) a0_0 a0_1 a0_2 a0_3 a0_4 a0_5 a0_6 a2_0 a2_1 a2_2)) else (prolepsislaw05_CellStays.j0 k a1 true a0_0 a0_1 a0_2 a0_3 a0_4 a0_5 a0_6 a2_0 a2_1 a2_2)) = some r := H
    have A7 := Aside0.mk A70
    clear A70
    by_cases c8 : t179 = true
    · subst c8
      have H1 : ((pen_Right.f a2_0 a2_1 a2_2).bind fun t180 => (prolepsislaw05_CellStays.j0 k a1 (!t180) a0_0 a0_1 a0_2 a0_3 a0_4 a0_5 a0_6 a2_0 a2_1 a2_2)) = some r := by rw [if_pos rfl] at H; exact H
      clear H
      have H := H1
      clear H1
      replace H := Option.bind_eq_some_iff.mp H
      obtain ⟨t180, A90, H⟩ := H
      replace H : (prolepsislaw05_CellStays.j0 k a1 (!t180) a0_0 a0_1 a0_2 a0_3 a0_4 a0_5 a0_6 a2_0 a2_1 a2_2) = some r := H
      have A9 := Aside0.mk A90
      clear A90
      have H' := Aside0.mk H
      clear H
      have hnb10 := NB177_178.out
      have hnc10 := NB178_177.out
      have hcz11_0 : w6.cell? ⟨gb177, 0, none⟩ = some (.int .i32 a0_0) := (blk_cell BK177.out 0).trans rfl
      have hcz11_1 : w6.cell? ⟨gb177, 1, none⟩ = some (.int .i32 a0_1) := (blk_cell BK177.out 1).trans rfl
      have hcz11_2 : w6.cell? ⟨gb177, 2, none⟩ = some (.int .i32 a0_2) := (blk_cell BK177.out 2).trans rfl
      have hcz11_3 : w6.cell? ⟨gb177, 3, none⟩ = some (.int .u8 a0_3) := (blk_cell BK177.out 3).trans rfl
      have hcz11_4 : w6.cell? ⟨gb177, 4, none⟩ = some (.int .u8 a0_4) := (blk_cell BK177.out 4).trans rfl
      have hcz11_5 : w6.cell? ⟨gb177, 5, none⟩ = some (.int .u8 a0_5) := (blk_cell BK177.out 5).trans rfl
      have hcz11_6 : w6.cell? ⟨gb177, 6, none⟩ = some (.int .u8 a0_6) := (blk_cell BK177.out 6).trans rfl
      have hfz11_0 := blk_frozen BK177.out 0
      have hfz11_1 := blk_frozen BK177.out 1
      have hfz11_2 := blk_frozen BK177.out 2
      have hfz11_3 := blk_frozen BK177.out 3
      have hfz11_4 := blk_frozen BK177.out 4
      have hfz11_5 := blk_frozen BK177.out 5
      have hfz11_6 := blk_frozen BK177.out 6
      go_wp2_with (first | ((with_reducible refine gate_callee (f := 26) rfl ?_); refine goesL_ (some 13) rfl rfl Try.func26 (by kernel_rfl) rfl #[.agg #[.int .i32 a0_0, .int .i32 a0_1, .int .i32 a0_2, .int .u8 a0_3, .int .u8 a0_4, .int .u8 a0_5, .int .u8 a0_6]] rfl (by (try simp only [List.map_toArray, List.map_cons, List.map_nil]); first | done | rfl | (simp only [List.length_drop, List.length_take]; rfl)) ?_; (with_reducible refine (cell_Right.calls a0_0 a0_1 a0_2 a0_3 a0_4 a0_5 a0_6 true _ A7.out).mono ?_); rintro e w12 ⟨rfl, hb⟩; refine ⟨_, rfl, ?_⟩; have n0_ := Aside0.mk (blk_below (g := gb177) (o := .cells #[.int .i32 a0_0, .int .i32 a0_1, .int .i32 a0_2, .int .u8 a0_3, .int .u8 a0_4, .int .u8 a0_5, .int .u8 a0_6] 26 (0, 0)) (by (with_reducible repeat (first | refine blk_drewN ?_ _ | refine blk_drew ?_ | refine blk_alloc ?_ _)); exact BK177.out) hb); have n1_ := Aside0.mk (blk_below (g := gb178) (o := .cells #[.int .u8 a2_0, .int .u8 a2_1, .int .u8 a2_2] 24 (0, 0)) (by (with_reducible repeat (first | refine blk_drewN ?_ _ | refine blk_drew ?_ | refine blk_alloc ?_ _)); exact BK178.out) hb); have n2_ := Aside0.mk (below_step (by repeat (first | (with_reducible first | exact HB.out | apply below_alloc | apply pw_below_drewN | apply below_drew1 | refine below_set ?_ GE177.out | refine below_set ?_ GE178.out) | exact HB.out)) hb); clear BK177; clear BK178; clear HB; have BK177 := n0_; have BK178 := n1_; have HB := n2_; clear n0_ n1_ n2_; (try clear hb); (try clear hb2); (try clear hk); (try clear hi); have hcz13_0 : w12.cell? ⟨gb178, 0, none⟩ = some (.int .u8 a2_0) := (blk_cell BK178.out 0).trans rfl; have hcz13_1 : w12.cell? ⟨gb178, 1, none⟩ = some (.int .u8 a2_1) := (blk_cell BK178.out 1).trans rfl; have hcz13_2 : w12.cell? ⟨gb178, 2, none⟩ = some (.int .u8 a2_2) := (blk_cell BK178.out 2).trans rfl; have hfz13_0 := blk_frozen BK178.out 0; have hfz13_1 := blk_frozen BK178.out 1; have hfz13_2 := blk_frozen BK178.out 2) | (go_at_call 32; (with_reducible refine (pen_Right.calls a2_0 a2_1 a2_2 t180 _ A9.out).mono ?_); rintro e w14 ⟨rfl, hb⟩; have n0_ := Aside0.mk (blk_below (g := gb177) (o := .cells #[.int .i32 a0_0, .int .i32 a0_1, .int .i32 a0_2, .int .u8 a0_3, .int .u8 a0_4, .int .u8 a0_5, .int .u8 a0_6] 26 (0, 0)) (by (with_reducible repeat (first | refine blk_drewN ?_ _ | refine blk_drew ?_ | refine blk_alloc ?_ _)); exact BK177.out) hb); have n1_ := Aside0.mk (blk_below (g := gb178) (o := .cells #[.int .u8 a2_0, .int .u8 a2_1, .int .u8 a2_2] 24 (0, 0)) (by (with_reducible repeat (first | refine blk_drewN ?_ _ | refine blk_drew ?_ | refine blk_alloc ?_ _)); exact BK178.out) hb); have n2_ := Aside0.mk (below_step (by repeat (first | (with_reducible first | exact HB.out | apply below_alloc | apply pw_below_drewN | apply below_drew1 | refine below_set ?_ GE177.out | refine below_set ?_ GE178.out) | exact HB.out)) hb); clear BK177; clear BK178; clear HB; have BK177 := n0_; have BK178 := n1_; have HB := n2_; clear n0_ n1_ n2_; (try clear hb); (try clear hb2); (try clear hk); (try clear hi)))
      go_meet
      case rel => exact ⟨_, (!t180), (by first | rfl | (simp; done) | (simp [*]; done)), H', ⟨by first | omega | exact Nat.le_refl _⟩, ⟨by (with_reducible repeat (first | refine blk_drewN ?_ _ | refine blk_drew ?_ | refine blk_alloc ?_ _)); exact BK177.out⟩, ⟨by (with_reducible repeat (first | refine blk_drewN ?_ _ | refine blk_drew ?_ | refine blk_alloc ?_ _)); exact BK178.out⟩, ⟨by repeat (first | (with_reducible first | exact HB.out | apply below_alloc | apply pw_below_drewN | apply below_drew1 | refine below_set ?_ GE177.out | refine below_set ?_ GE178.out) | exact HB.out)⟩⟩
    · replace c8 := Bool.eq_false_iff.mpr c8
      subst c8
      have H1 : (prolepsislaw05_CellStays.j0 k a1 true a0_0 a0_1 a0_2 a0_3 a0_4 a0_5 a0_6 a2_0 a2_1 a2_2) = some r := by rw [if_neg (show ¬ (false = true) by decide)] at H; exact H
      clear H
      have H := H1
      clear H1
      have H' := Aside0.mk H
      clear H
      have hnb15 := NB177_178.out
      have hnc15 := NB178_177.out
      have hcz16_0 : w6.cell? ⟨gb177, 0, none⟩ = some (.int .i32 a0_0) := (blk_cell BK177.out 0).trans rfl
      have hcz16_1 : w6.cell? ⟨gb177, 1, none⟩ = some (.int .i32 a0_1) := (blk_cell BK177.out 1).trans rfl
      have hcz16_2 : w6.cell? ⟨gb177, 2, none⟩ = some (.int .i32 a0_2) := (blk_cell BK177.out 2).trans rfl
      have hcz16_3 : w6.cell? ⟨gb177, 3, none⟩ = some (.int .u8 a0_3) := (blk_cell BK177.out 3).trans rfl
      have hcz16_4 : w6.cell? ⟨gb177, 4, none⟩ = some (.int .u8 a0_4) := (blk_cell BK177.out 4).trans rfl
      have hcz16_5 : w6.cell? ⟨gb177, 5, none⟩ = some (.int .u8 a0_5) := (blk_cell BK177.out 5).trans rfl
      have hcz16_6 : w6.cell? ⟨gb177, 6, none⟩ = some (.int .u8 a0_6) := (blk_cell BK177.out 6).trans rfl
      have hfz16_0 := blk_frozen BK177.out 0
      have hfz16_1 := blk_frozen BK177.out 1
      have hfz16_2 := blk_frozen BK177.out 2
      have hfz16_3 := blk_frozen BK177.out 3
      have hfz16_4 := blk_frozen BK177.out 4
      have hfz16_5 := blk_frozen BK177.out 5
      have hfz16_6 := blk_frozen BK177.out 6
      go_wp2_with (first | ((with_reducible refine gate_callee (f := 26) rfl ?_); refine goesL_ (some 13) rfl rfl Try.func26 (by kernel_rfl) rfl #[.agg #[.int .i32 a0_0, .int .i32 a0_1, .int .i32 a0_2, .int .u8 a0_3, .int .u8 a0_4, .int .u8 a0_5, .int .u8 a0_6]] rfl (by (try simp only [List.map_toArray, List.map_cons, List.map_nil]); first | done | rfl | (simp only [List.length_drop, List.length_take]; rfl)) ?_; (with_reducible refine (cell_Right.calls a0_0 a0_1 a0_2 a0_3 a0_4 a0_5 a0_6 false _ A7.out).mono ?_); rintro e w17 ⟨rfl, hb⟩; refine ⟨_, rfl, ?_⟩; have n0_ := Aside0.mk (blk_below (g := gb177) (o := .cells #[.int .i32 a0_0, .int .i32 a0_1, .int .i32 a0_2, .int .u8 a0_3, .int .u8 a0_4, .int .u8 a0_5, .int .u8 a0_6] 26 (0, 0)) (by (with_reducible repeat (first | refine blk_drewN ?_ _ | refine blk_drew ?_ | refine blk_alloc ?_ _)); exact BK177.out) hb); have n1_ := Aside0.mk (blk_below (g := gb178) (o := .cells #[.int .u8 a2_0, .int .u8 a2_1, .int .u8 a2_2] 24 (0, 0)) (by (with_reducible repeat (first | refine blk_drewN ?_ _ | refine blk_drew ?_ | refine blk_alloc ?_ _)); exact BK178.out) hb); have n2_ := Aside0.mk (below_step (by repeat (first | (with_reducible first | exact HB.out | apply below_alloc | apply pw_below_drewN | apply below_drew1 | refine below_set ?_ GE177.out | refine below_set ?_ GE178.out) | exact HB.out)) hb); clear BK177; clear BK178; clear HB; have BK177 := n0_; have BK178 := n1_; have HB := n2_; clear n0_ n1_ n2_; (try clear hb); (try clear hb2); (try clear hk); (try clear hi)))
      go_meet
      case rel => exact ⟨_, (true), (by first | rfl | (simp; done) | (simp [*]; done)), H', ⟨by first | omega | exact Nat.le_refl _⟩, ⟨by (with_reducible repeat (first | refine blk_drewN ?_ _ | refine blk_drew ?_ | refine blk_alloc ?_ _)); exact BK177.out⟩, ⟨by (with_reducible repeat (first | refine blk_drewN ?_ _ | refine blk_drew ?_ | refine blk_alloc ?_ _)); exact BK178.out⟩, ⟨by repeat (first | (with_reducible first | exact HB.out | apply below_alloc | apply pw_below_drewN | apply below_drew1 | refine below_set ?_ GE177.out | refine below_set ?_ GE178.out) | exact HB.out)⟩⟩
  case rest =>
    clear HC4
    try clear c1
    try clear c2
    try clear p2
    try clear c5
    try clear c8
    try clear c10
    try clear c15
    try clear hcz11_0
    try clear hcz11_1
    try clear hcz11_2
    try clear hcz11_3
    try clear hcz11_4
    try clear hcz11_5
    try clear hcz11_6
    try clear hcz13_0
    try clear hcz13_1
    try clear hcz13_2
    try clear hcz16_0
    try clear hcz16_1
    try clear hcz16_2
    try clear hcz16_3
    try clear hcz16_4
    try clear hcz16_5
    try clear hcz16_6
    try clear hfz11_0
    try clear hfz11_1
    try clear hfz11_2
    try clear hfz11_3
    try clear hfz11_4
    try clear hfz11_5
    try clear hfz11_6
    try clear hfz13_0
    try clear hfz13_1
    try clear hfz13_2
    try clear hfz16_0
    try clear hfz16_1
    try clear hfz16_2
    try clear hfz16_3
    try clear hfz16_4
    try clear hfz16_5
    try clear hfz16_6
    obtain ⟨kq, x19_3, rfl, HA, HJ3, BK177, BK178, HB⟩ := hcut
    cases kq with
    | zero => exact absurd HA.out (by simp [prolepsislaw05_CellStays.j0])
    | succ kj3 =>
      have H := HA.out
      clear HA
      simp only [prolepsislaw05_CellStays.j0] at H
      by_cases c18 : x19_3 = true
      · subst c18
        have H1 : ((prolepsislaw05_known.f).bind fun t181 => (some t181)) = some r := by rw [if_pos rfl] at H; exact H
        clear H
        have H := H1
        clear H1
        replace H := Option.bind_eq_some_iff.mp H
        obtain ⟨t181, A190, H⟩ := H
        replace H : (some t181) = some r := H
        have A19 := Aside0.mk A190
        clear A190
        obtain rfl := Option.some.inj H
        go_wp2_with (first | ((with_reducible refine gate_callee (f := 20) rfl ?_); refine goesL_ (some 20) rfl rfl Try.func20 (by kernel_rfl) rfl #[] rfl (by (try simp only [List.map_toArray, List.map_cons, List.map_nil]); first | done | rfl | (simp only [List.length_drop, List.length_take]; rfl)) ?_; (with_reducible refine (prolepsislaw05_known.calls  t181 _ A19.out).mono ?_); rintro e w20 ⟨rfl, hb⟩; refine ⟨_, rfl, ?_⟩; have n0_ := Aside0.mk (blk_below (g := gb177) (o := .cells #[.int .i32 a0_0, .int .i32 a0_1, .int .i32 a0_2, .int .u8 a0_3, .int .u8 a0_4, .int .u8 a0_5, .int .u8 a0_6] 26 (0, 0)) (by (with_reducible repeat (first | refine blk_drewN ?_ _ | refine blk_drew ?_ | refine blk_alloc ?_ _)); exact BK177.out) hb); have n1_ := Aside0.mk (blk_below (g := gb178) (o := .cells #[.int .u8 a2_0, .int .u8 a2_1, .int .u8 a2_2] 24 (0, 0)) (by (with_reducible repeat (first | refine blk_drewN ?_ _ | refine blk_drew ?_ | refine blk_alloc ?_ _)); exact BK178.out) hb); have n2_ := Aside0.mk (below_step (by repeat (first | (with_reducible first | exact HB.out | apply below_alloc | apply pw_below_drewN | apply below_drew1 | refine below_set ?_ GE177.out | refine below_set ?_ GE178.out) | exact HB.out)) hb); clear BK177; clear BK178; clear HB; have BK177 := n0_; have BK178 := n1_; have HB := n2_; clear n0_ n1_ n2_; (try clear hb); (try clear hb2); (try clear hk); (try clear hi)))
        go_ret
        exact ⟨by first | rfl | (simp [errW_none, errW_some] <;> rfl) | (simp [*, errW_none, errW_some] <;> rfl), by repeat (first | (with_reducible first | exact HB.out | apply below_alloc | apply pw_below_drewN | apply below_drew1 | refine below_set ?_ GE177.out | refine below_set ?_ GE178.out) | exact HB.out)⟩
      · replace c18 := Bool.eq_false_iff.mpr c18
        subst c18
        have H1 : ((cell_Of.f a1 a2_0 a2_1 a2_2).bind fun bt182 => ((cell_Mark.f a0_0 a0_1 a0_2 a0_3 a0_4 a0_5 a0_6 a1).bind fun bt191 => (if bt182.2.2.2.2.2.2.2 = true then ((cell_Right.f bt182.1 bt182.2.1 bt182.2.2.1 bt182.2.2.2.1 bt182.2.2.2.2.1 bt182.2.2.2.2.2.1 bt182.2.2.2.2.2.2.1).bind fun t200 => (if t200 = true then ((cell_Right.f bt191.1 bt191.2.1 bt191.2.2.1 bt191.2.2.2.1 bt191.2.2.2.2.1 bt191.2.2.2.2.2.1 bt191.2.2.2.2.2.2.1).bind fun t201 => (if t201 = true then ((cell_Rest.f a0_0 a0_1 a0_2 a0_3 a0_4 a0_5 a0_6).bind fun bt202 => ((cell_Right.f bt202.1 bt202.2.1 bt202.2.2.1 bt202.2.2.2.1 bt202.2.2.2.2.1 bt202.2.2.2.2.2.1 bt202.2.2.2.2.2.2).bind fun t209 => (if t209 = true then ((cell_Blank.f a2_0 a2_1 a2_2).bind fun bt210 => ((cell_Right.f bt210.1 bt210.2.1 bt210.2.2.1 bt210.2.2.2.1 bt210.2.2.2.2.1 bt210.2.2.2.2.2.1 bt210.2.2.2.2.2.2).bind fun t217 => (if t217 = true then ((cell_With.f a0_0 a0_1 a0_2 a0_3 a0_4 a0_5 a0_6 a2_0 a2_1 a2_2).bind fun bt218 => ((cell_Right.f bt218.1 bt218.2.1 bt218.2.2.1 bt218.2.2.2.1 bt218.2.2.2.2.1 bt218.2.2.2.2.2.1 bt218.2.2.2.2.2.2).bind fun t225 => (prolepsislaw05_CellStays.j1 kj3 (!t225) a0_0 a0_1 a0_2 a0_3 a0_4 a0_5 a0_6))) else (prolepsislaw05_CellStays.j1 kj3 true a0_0 a0_1 a0_2 a0_3 a0_4 a0_5 a0_6)))) else (prolepsislaw05_CellStays.j1 kj3 true a0_0 a0_1 a0_2 a0_3 a0_4 a0_5 a0_6)))) else (prolepsislaw05_CellStays.j1 kj3 true a0_0 a0_1 a0_2 a0_3 a0_4 a0_5 a0_6))) else (prolepsislaw05_CellStays.j1 kj3 true a0_0 a0_1 a0_2 a0_3 a0_4 a0_5 a0_6))) else ((cell_Right.f bt191.1 bt191.2.1 bt191.2.2.1 bt191.2.2.2.1 bt191.2.2.2.2.1 bt191.2.2.2.2.2.1 bt191.2.2.2.2.2.2.1).bind fun t226 => (if t226 = true then ((cell_Rest.f a0_0 a0_1 a0_2 a0_3 a0_4 a0_5 a0_6).bind fun bt227 => ((cell_Right.f bt227.1 bt227.2.1 bt227.2.2.1 bt227.2.2.2.1 bt227.2.2.2.2.1 bt227.2.2.2.2.2.1 bt227.2.2.2.2.2.2).bind fun t234 => (if t234 = true then ((cell_Blank.f a2_0 a2_1 a2_2).bind fun bt235 => ((cell_Right.f bt235.1 bt235.2.1 bt235.2.2.1 bt235.2.2.2.1 bt235.2.2.2.2.1 bt235.2.2.2.2.2.1 bt235.2.2.2.2.2.2).bind fun t242 => (if t242 = true then ((cell_With.f a0_0 a0_1 a0_2 a0_3 a0_4 a0_5 a0_6 a2_0 a2_1 a2_2).bind fun bt243 => ((cell_Right.f bt243.1 bt243.2.1 bt243.2.2.1 bt243.2.2.2.1 bt243.2.2.2.2.1 bt243.2.2.2.2.2.1 bt243.2.2.2.2.2.2).bind fun t250 => (prolepsislaw05_CellStays.j1 kj3 (!t250) a0_0 a0_1 a0_2 a0_3 a0_4 a0_5 a0_6))) else (prolepsislaw05_CellStays.j1 kj3 true a0_0 a0_1 a0_2 a0_3 a0_4 a0_5 a0_6)))) else (prolepsislaw05_CellStays.j1 kj3 true a0_0 a0_1 a0_2 a0_3 a0_4 a0_5 a0_6)))) else (prolepsislaw05_CellStays.j1 kj3 true a0_0 a0_1 a0_2 a0_3 a0_4 a0_5 a0_6)))))) = some r := by rw [if_neg (show ¬ (false = true) by decide)] at H; exact H
        clear H
        have H := H1
        clear H1
        replace H := Option.bind_eq_some_iff.mp H
        obtain ⟨⟨t182, t183, t184, t185, t186, t187, t188, t189⟩, A210, H⟩ := H
        replace H : ((cell_Mark.f a0_0 a0_1 a0_2 a0_3 a0_4 a0_5 a0_6 a1).bind fun bt191 => (if t189 = true then ((cell_Right.f t182 t183 t184 t185 t186 t187 t188).bind fun t200 => (if t200 = true then ((cell_Right.f bt191.1 bt191.2.1 bt191.2.2.1 bt191.2.2.2.1 bt191.2.2.2.2.1 bt191.2.2.2.2.2.1 bt191.2.2.2.2.2.2.1).bind fun t201 => (if t201 = true then ((cell_Rest.f a0_0 a0_1 a0_2 a0_3 a0_4 a0_5 a0_6).bind fun bt202 => ((cell_Right.f bt202.1 bt202.2.1 bt202.2.2.1 bt202.2.2.2.1 bt202.2.2.2.2.1 bt202.2.2.2.2.2.1 bt202.2.2.2.2.2.2).bind fun t209 => (if t209 = true then ((cell_Blank.f a2_0 a2_1 a2_2).bind fun bt210 => ((cell_Right.f bt210.1 bt210.2.1 bt210.2.2.1 bt210.2.2.2.1 bt210.2.2.2.2.1 bt210.2.2.2.2.2.1 bt210.2.2.2.2.2.2).bind fun t217 => (if t217 = true then ((cell_With.f a0_0 a0_1 a0_2 a0_3 a0_4 a0_5 a0_6 a2_0 a2_1 a2_2).bind fun bt218 => ((cell_Right.f bt218.1 bt218.2.1 bt218.2.2.1 bt218.2.2.2.1 bt218.2.2.2.2.1 bt218.2.2.2.2.2.1 bt218.2.2.2.2.2.2).bind fun t225 => (prolepsislaw05_CellStays.j1 kj3 (!t225) a0_0 a0_1 a0_2 a0_3 a0_4 a0_5 a0_6))) else (prolepsislaw05_CellStays.j1 kj3 true a0_0 a0_1 a0_2 a0_3 a0_4 a0_5 a0_6)))) else (prolepsislaw05_CellStays.j1 kj3 true a0_0 a0_1 a0_2 a0_3 a0_4 a0_5 a0_6)))) else (prolepsislaw05_CellStays.j1 kj3 true a0_0 a0_1 a0_2 a0_3 a0_4 a0_5 a0_6))) else (prolepsislaw05_CellStays.j1 kj3 true a0_0 a0_1 a0_2 a0_3 a0_4 a0_5 a0_6))) else ((cell_Right.f bt191.1 bt191.2.1 bt191.2.2.1 bt191.2.2.2.1 bt191.2.2.2.2.1 bt191.2.2.2.2.2.1 bt191.2.2.2.2.2.2.1).bind fun t226 => (if t226 = true then ((cell_Rest.f a0_0 a0_1 a0_2 a0_3 a0_4 a0_5 a0_6).bind fun bt227 => ((cell_Right.f bt227.1 bt227.2.1 bt227.2.2.1 bt227.2.2.2.1 bt227.2.2.2.2.1 bt227.2.2.2.2.2.1 bt227.2.2.2.2.2.2).bind fun t234 => (if t234 = true then ((cell_Blank.f a2_0 a2_1 a2_2).bind fun bt235 => ((cell_Right.f bt235.1 bt235.2.1 bt235.2.2.1 bt235.2.2.2.1 bt235.2.2.2.2.1 bt235.2.2.2.2.2.1 bt235.2.2.2.2.2.2).bind fun t242 => (if t242 = true then ((cell_With.f a0_0 a0_1 a0_2 a0_3 a0_4 a0_5 a0_6 a2_0 a2_1 a2_2).bind fun bt243 => ((cell_Right.f bt243.1 bt243.2.1 bt243.2.2.1 bt243.2.2.2.1 bt243.2.2.2.2.1 bt243.2.2.2.2.2.1 bt243.2.2.2.2.2.2).bind fun t250 => (prolepsislaw05_CellStays.j1 kj3 (!t250) a0_0 a0_1 a0_2 a0_3 a0_4 a0_5 a0_6))) else (prolepsislaw05_CellStays.j1 kj3 true a0_0 a0_1 a0_2 a0_3 a0_4 a0_5 a0_6)))) else (prolepsislaw05_CellStays.j1 kj3 true a0_0 a0_1 a0_2 a0_3 a0_4 a0_5 a0_6)))) else (prolepsislaw05_CellStays.j1 kj3 true a0_0 a0_1 a0_2 a0_3 a0_4 a0_5 a0_6))))) = some r := H
        have A21 := Aside0.mk A210
        clear A210
        replace H := Option.bind_eq_some_iff.mp H
        obtain ⟨⟨t191, t192, t193, t194, t195, t196, t197, t198⟩, A220, H⟩ := H
        replace H : (if t189 = true then ((cell_Right.f t182 t183 t184 t185 t186 t187 t188).bind fun t200 => (if t200 = true then ((cell_Right.f t191 t192 t193 t194 t195 t196 t197).bind fun t201 => (if t201 = true then ((cell_Rest.f a0_0 a0_1 a0_2 a0_3 a0_4 a0_5 a0_6).bind fun bt202 => ((cell_Right.f bt202.1 bt202.2.1 bt202.2.2.1 bt202.2.2.2.1 bt202.2.2.2.2.1 bt202.2.2.2.2.2.1 bt202.2.2.2.2.2.2).bind fun t209 => (if t209 = true then ((cell_Blank.f a2_0 a2_1 a2_2).bind fun bt210 => ((cell_Right.f bt210.1 bt210.2.1 bt210.2.2.1 bt210.2.2.2.1 bt210.2.2.2.2.1 bt210.2.2.2.2.2.1 bt210.2.2.2.2.2.2).bind fun t217 => (if t217 = true then ((cell_With.f a0_0 a0_1 a0_2 a0_3 a0_4 a0_5 a0_6 a2_0 a2_1 a2_2).bind fun bt218 => ((cell_Right.f bt218.1 bt218.2.1 bt218.2.2.1 bt218.2.2.2.1 bt218.2.2.2.2.1 bt218.2.2.2.2.2.1 bt218.2.2.2.2.2.2).bind fun t225 => (prolepsislaw05_CellStays.j1 kj3 (!t225) a0_0 a0_1 a0_2 a0_3 a0_4 a0_5 a0_6))) else (prolepsislaw05_CellStays.j1 kj3 true a0_0 a0_1 a0_2 a0_3 a0_4 a0_5 a0_6)))) else (prolepsislaw05_CellStays.j1 kj3 true a0_0 a0_1 a0_2 a0_3 a0_4 a0_5 a0_6)))) else (prolepsislaw05_CellStays.j1 kj3 true a0_0 a0_1 a0_2 a0_3 a0_4 a0_5 a0_6))) else (prolepsislaw05_CellStays.j1 kj3 true a0_0 a0_1 a0_2 a0_3 a0_4 a0_5 a0_6))) else ((cell_Right.f t191 t192 t193 t194 t195 t196 t197).bind fun t226 => (if t226 = true then ((cell_Rest.f a0_0 a0_1 a0_2 a0_3 a0_4 a0_5 a0_6).bind fun bt227 => ((cell_Right.f bt227.1 bt227.2.1 bt227.2.2.1 bt227.2.2.2.1 bt227.2.2.2.2.1 bt227.2.2.2.2.2.1 bt227.2.2.2.2.2.2).bind fun t234 => (if t234 = true then ((cell_Blank.f a2_0 a2_1 a2_2).bind fun bt235 => ((cell_Right.f bt235.1 bt235.2.1 bt235.2.2.1 bt235.2.2.2.1 bt235.2.2.2.2.1 bt235.2.2.2.2.2.1 bt235.2.2.2.2.2.2).bind fun t242 => (if t242 = true then ((cell_With.f a0_0 a0_1 a0_2 a0_3 a0_4 a0_5 a0_6 a2_0 a2_1 a2_2).bind fun bt243 => ((cell_Right.f bt243.1 bt243.2.1 bt243.2.2.1 bt243.2.2.2.1 bt243.2.2.2.2.1 bt243.2.2.2.2.2.1 bt243.2.2.2.2.2.2).bind fun t250 => (prolepsislaw05_CellStays.j1 kj3 (!t250) a0_0 a0_1 a0_2 a0_3 a0_4 a0_5 a0_6))) else (prolepsislaw05_CellStays.j1 kj3 true a0_0 a0_1 a0_2 a0_3 a0_4 a0_5 a0_6)))) else (prolepsislaw05_CellStays.j1 kj3 true a0_0 a0_1 a0_2 a0_3 a0_4 a0_5 a0_6)))) else (prolepsislaw05_CellStays.j1 kj3 true a0_0 a0_1 a0_2 a0_3 a0_4 a0_5 a0_6)))) = some r := H
        have A22 := Aside0.mk A220
        clear A220
        have HC23 := Aside0.mk H
        clear H
        have hnb24 := NB178_177.out
        have hnc24 := NB177_178.out
        have hcz25_0 : wc.cell? ⟨gb178, 0, none⟩ = some (.int .u8 a2_0) := (blk_cell BK178.out 0).trans rfl
        have hcz25_1 : wc.cell? ⟨gb178, 1, none⟩ = some (.int .u8 a2_1) := (blk_cell BK178.out 1).trans rfl
        have hcz25_2 : wc.cell? ⟨gb178, 2, none⟩ = some (.int .u8 a2_2) := (blk_cell BK178.out 2).trans rfl
        have hfz25_0 := blk_frozen BK178.out 0
        have hfz25_1 := blk_frozen BK178.out 1
        have hfz25_2 := blk_frozen BK178.out 2
        go_upto_region 5 with (first | ((with_reducible refine gate_callee (f := 14) rfl ?_); refine goesL_ (some 24) rfl rfl Try.func14 (by kernel_rfl) rfl #[.int .i32 a1, .agg #[.int .u8 a2_0, .int .u8 a2_1, .int .u8 a2_2]] rfl (by (try simp only [List.map_toArray, List.map_cons, List.map_nil]); first | done | rfl | (simp only [List.length_drop, List.length_take]; rfl)) ?_; (with_reducible refine (cell_Of.calls a1 a2_0 a2_1 a2_2 t182 t183 t184 t185 t186 t187 t188 t189 _ A21.out).mono ?_); rintro e w26 ⟨rfl, hb⟩; refine ⟨_, rfl, ?_⟩; have n0_ := Aside0.mk (blk_below (g := gb177) (o := .cells #[.int .i32 a0_0, .int .i32 a0_1, .int .i32 a0_2, .int .u8 a0_3, .int .u8 a0_4, .int .u8 a0_5, .int .u8 a0_6] 26 (0, 0)) (by (with_reducible repeat (first | refine blk_drewN ?_ _ | refine blk_drew ?_ | refine blk_alloc ?_ _)); exact BK177.out) hb); have n1_ := Aside0.mk (blk_below (g := gb178) (o := .cells #[.int .u8 a2_0, .int .u8 a2_1, .int .u8 a2_2] 24 (0, 0)) (by (with_reducible repeat (first | refine blk_drewN ?_ _ | refine blk_drew ?_ | refine blk_alloc ?_ _)); exact BK178.out) hb); have n2_ := Aside0.mk (below_step (by repeat (first | (with_reducible first | exact HB.out | apply below_alloc | apply pw_below_drewN | apply below_drew1 | refine below_set ?_ GE177.out | refine below_set ?_ GE178.out) | exact HB.out)) hb); clear BK177; clear BK178; clear HB; have BK177 := n0_; have BK178 := n1_; have HB := n2_; clear n0_ n1_ n2_; (try clear hb); (try clear hb2); (try clear hk); (try clear hi)) | ((with_reducible refine gate_dst (N := 7) rfl ?_); (try (refine gate_guard (by rfl) ?_; dsimp only)); refine box_event ?hg (N := 7) ?hd (cs := #[.int .i32 0, .int .i32 0, .int .i32 0, .int .u8 0, .int .u8 0, .int .u8 0, .int .u8 0]) (t := 26) ?hr ?_; (case hd => rfl); (case hg => rfl); (case hr => first | (go_simp; done) | (go_simp; rfl)); intro gb190 hg w27 hbox hb; have n0_ := Aside0.mk (blk_below (g := gb177) (o := .cells #[.int .i32 a0_0, .int .i32 a0_1, .int .i32 a0_2, .int .u8 a0_3, .int .u8 a0_4, .int .u8 a0_5, .int .u8 a0_6] 26 (0, 0)) (by (with_reducible repeat (first | refine blk_drewN ?_ _ | refine blk_drew ?_ | refine blk_alloc ?_ _)); exact BK177.out) hb); have n1_ := Aside0.mk (blk_below (g := gb178) (o := .cells #[.int .u8 a2_0, .int .u8 a2_1, .int .u8 a2_2] 24 (0, 0)) (by (with_reducible repeat (first | refine blk_drewN ?_ _ | refine blk_drew ?_ | refine blk_alloc ?_ _)); exact BK178.out) hb); have n2_ := Aside0.mk (below_step (by repeat (first | (with_reducible first | exact HB.out | apply below_alloc | apply pw_below_drewN | apply below_drew1 | refine below_set ?_ GE177.out | refine below_set ?_ GE178.out) | exact HB.out)) hb); have n3_ := Aside0.mk (hbox); have n4_ := Aside0.mk ((by rw [hg]; exact (below_size (by repeat (first | (with_reducible first | exact HB.out | apply below_alloc | apply pw_below_drewN | apply below_drew1 | refine below_set ?_ GE177.out | refine below_set ?_ GE178.out) | exact HB.out))) : w.heap.size ≤ gb190)); have n5_ := Aside0.mk ((by rw [hg]; exact (below_size (by repeat (first | (with_reducible first | exact HB.out | apply below_alloc | apply pw_below_drewN | apply below_drew1 | refine below_set ?_ GE177.out | refine below_set ?_ GE178.out) | exact HB.out))) : w.heap.size ≤ gb190)); have n6_ := Aside0.mk ((by rw [hg]; exact Nat.ne_of_lt (blk_lt (g := gb177) (o := .cells #[.int .i32 a0_0, .int .i32 a0_1, .int .i32 a0_2, .int .u8 a0_3, .int .u8 a0_4, .int .u8 a0_5, .int .u8 a0_6] 26 (0, 0)) (by (with_reducible repeat (first | refine blk_drewN ?_ _ | refine blk_drew ?_ | refine blk_alloc ?_ _)); exact BK177.out)) : gb177 ≠ gb190)); have n7_ := Aside0.mk ((by rw [hg]; exact Nat.ne_of_gt (blk_lt (g := gb177) (o := .cells #[.int .i32 a0_0, .int .i32 a0_1, .int .i32 a0_2, .int .u8 a0_3, .int .u8 a0_4, .int .u8 a0_5, .int .u8 a0_6] 26 (0, 0)) (by (with_reducible repeat (first | refine blk_drewN ?_ _ | refine blk_drew ?_ | refine blk_alloc ?_ _)); exact BK177.out)) : gb190 ≠ gb177)); have n8_ := Aside0.mk ((by rw [hg]; exact Nat.ne_of_lt (blk_lt (g := gb178) (o := .cells #[.int .u8 a2_0, .int .u8 a2_1, .int .u8 a2_2] 24 (0, 0)) (by (with_reducible repeat (first | refine blk_drewN ?_ _ | refine blk_drew ?_ | refine blk_alloc ?_ _)); exact BK178.out)) : gb178 ≠ gb190)); have n9_ := Aside0.mk ((by rw [hg]; exact Nat.ne_of_gt (blk_lt (g := gb178) (o := .cells #[.int .u8 a2_0, .int .u8 a2_1, .int .u8 a2_2] 24 (0, 0)) (by (with_reducible repeat (first | refine blk_drewN ?_ _ | refine blk_drew ?_ | refine blk_alloc ?_ _)); exact BK178.out)) : gb190 ≠ gb178)); clear BK177; clear BK178; clear HB; have BK177 := n0_; have BK178 := n1_; have HB := n2_; have BK190 := n3_; have GW190 := n4_; have GE190 := n5_; have NB177_190 := n6_; have NB190_177 := n7_; have NB178_190 := n8_; have NB190_178 := n9_; clear n0_ n1_ n2_ n3_ n4_ n5_ n6_ n7_ n8_ n9_; clear hb hbox hg; have hnb28 := NB190_177.out; have hnc28 := NB177_190.out; have hnb29 := NB190_178.out; have hnc29 := NB178_190.out; have hcz30_0 : w27.cell? ⟨gb190, 0, none⟩ = some (.int .i32 0) := (blk_cell BK190.out 0).trans rfl; have hcz30_1 : w27.cell? ⟨gb190, 1, none⟩ = some (.int .i32 0) := (blk_cell BK190.out 1).trans rfl; have hcz30_2 : w27.cell? ⟨gb190, 2, none⟩ = some (.int .i32 0) := (blk_cell BK190.out 2).trans rfl; have hcz30_3 : w27.cell? ⟨gb190, 3, none⟩ = some (.int .u8 0) := (blk_cell BK190.out 3).trans rfl; have hcz30_4 : w27.cell? ⟨gb190, 4, none⟩ = some (.int .u8 0) := (blk_cell BK190.out 4).trans rfl; have hcz30_5 : w27.cell? ⟨gb190, 5, none⟩ = some (.int .u8 0) := (blk_cell BK190.out 5).trans rfl; have hcz30_6 : w27.cell? ⟨gb190, 6, none⟩ = some (.int .u8 0) := (blk_cell BK190.out 6).trans rfl; have hfz30_0 := blk_frozen BK190.out 0; have hfz30_1 := blk_frozen BK190.out 1; have hfz30_2 := blk_frozen BK190.out 2; have hfz30_3 := blk_frozen BK190.out 3; have hfz30_4 := blk_frozen BK190.out 4; have hfz30_5 := blk_frozen BK190.out 5; have hfz30_6 := blk_frozen BK190.out 6; have hcz31_0 : w27.cell? ⟨gb177, 0, none⟩ = some (.int .i32 a0_0) := (blk_cell BK177.out 0).trans rfl; have hcz31_1 : w27.cell? ⟨gb177, 1, none⟩ = some (.int .i32 a0_1) := (blk_cell BK177.out 1).trans rfl; have hcz31_2 : w27.cell? ⟨gb177, 2, none⟩ = some (.int .i32 a0_2) := (blk_cell BK177.out 2).trans rfl; have hcz31_3 : w27.cell? ⟨gb177, 3, none⟩ = some (.int .u8 a0_3) := (blk_cell BK177.out 3).trans rfl; have hcz31_4 : w27.cell? ⟨gb177, 4, none⟩ = some (.int .u8 a0_4) := (blk_cell BK177.out 4).trans rfl; have hcz31_5 : w27.cell? ⟨gb177, 5, none⟩ = some (.int .u8 a0_5) := (blk_cell BK177.out 5).trans rfl; have hcz31_6 : w27.cell? ⟨gb177, 6, none⟩ = some (.int .u8 a0_6) := (blk_cell BK177.out 6).trans rfl; have hfz31_0 := blk_frozen BK177.out 0; have hfz31_1 := blk_frozen BK177.out 1; have hfz31_2 := blk_frozen BK177.out 2; have hfz31_3 := blk_frozen BK177.out 3; have hfz31_4 := blk_frozen BK177.out 4; have hfz31_5 := blk_frozen BK177.out 5; have hfz31_6 := blk_frozen BK177.out 6) | ((with_reducible refine gate_callee (f := 16) rfl ?_); refine goesL_ (some 30) rfl rfl Try.func16 (by kernel_rfl) rfl #[.agg #[.int .i32 a0_0, .int .i32 a0_1, .int .i32 a0_2, .int .u8 a0_3, .int .u8 a0_4, .int .u8 a0_5, .int .u8 a0_6], .int .i32 a1] rfl (by (try simp only [List.map_toArray, List.map_cons, List.map_nil]); first | done | rfl | (simp only [List.length_drop, List.length_take]; rfl)) ?_; (with_reducible refine (cell_Mark.calls a0_0 a0_1 a0_2 a0_3 a0_4 a0_5 a0_6 a1 t191 t192 t193 t194 t195 t196 t197 t198 _ A22.out).mono ?_); rintro e w32 ⟨rfl, hb⟩; refine ⟨_, rfl, ?_⟩; have n0_ := Aside0.mk (blk_below (g := gb177) (o := .cells #[.int .i32 a0_0, .int .i32 a0_1, .int .i32 a0_2, .int .u8 a0_3, .int .u8 a0_4, .int .u8 a0_5, .int .u8 a0_6] 26 (0, 0)) (by (with_reducible repeat (first | refine blk_drewN ?_ _ | refine blk_drew ?_ | refine blk_alloc ?_ _)); refine blk_far ?_ NB177_190.out _; (with_reducible repeat (first | refine blk_drewN ?_ _ | refine blk_drew ?_ | refine blk_alloc ?_ _)); refine blk_far ?_ NB177_190.out _; (with_reducible repeat (first | refine blk_drewN ?_ _ | refine blk_drew ?_ | refine blk_alloc ?_ _)); refine blk_far ?_ NB177_190.out _; (with_reducible repeat (first | refine blk_drewN ?_ _ | refine blk_drew ?_ | refine blk_alloc ?_ _)); refine blk_far ?_ NB177_190.out _; (with_reducible repeat (first | refine blk_drewN ?_ _ | refine blk_drew ?_ | refine blk_alloc ?_ _)); refine blk_far ?_ NB177_190.out _; (with_reducible repeat (first | refine blk_drewN ?_ _ | refine blk_drew ?_ | refine blk_alloc ?_ _)); refine blk_far ?_ NB177_190.out _; (with_reducible repeat (first | refine blk_drewN ?_ _ | refine blk_drew ?_ | refine blk_alloc ?_ _)); refine blk_far ?_ NB177_190.out _; (with_reducible repeat (first | refine blk_drewN ?_ _ | refine blk_drew ?_ | refine blk_alloc ?_ _)); exact BK177.out) hb); have n1_ := Aside0.mk (blk_below (g := gb178) (o := .cells #[.int .u8 a2_0, .int .u8 a2_1, .int .u8 a2_2] 24 (0, 0)) (by (with_reducible repeat (first | refine blk_drewN ?_ _ | refine blk_drew ?_ | refine blk_alloc ?_ _)); refine blk_far ?_ NB178_190.out _; (with_reducible repeat (first | refine blk_drewN ?_ _ | refine blk_drew ?_ | refine blk_alloc ?_ _)); refine blk_far ?_ NB178_190.out _; (with_reducible repeat (first | refine blk_drewN ?_ _ | refine blk_drew ?_ | refine blk_alloc ?_ _)); refine blk_far ?_ NB178_190.out _; (with_reducible repeat (first | refine blk_drewN ?_ _ | refine blk_drew ?_ | refine blk_alloc ?_ _)); refine blk_far ?_ NB178_190.out _; (with_reducible repeat (first | refine blk_drewN ?_ _ | refine blk_drew ?_ | refine blk_alloc ?_ _)); refine blk_far ?_ NB178_190.out _; (with_reducible repeat (first | refine blk_drewN ?_ _ | refine blk_drew ?_ | refine blk_alloc ?_ _)); refine blk_far ?_ NB178_190.out _; (with_reducible repeat (first | refine blk_drewN ?_ _ | refine blk_drew ?_ | refine blk_alloc ?_ _)); refine blk_far ?_ NB178_190.out _; (with_reducible repeat (first | refine blk_drewN ?_ _ | refine blk_drew ?_ | refine blk_alloc ?_ _)); exact BK178.out) hb); have n2_ := Aside0.mk (blk_below (g := gb190) (o := .cells #[.int .i32 t182, .int .i32 t183, .int .i32 t184, .int .u8 t185, .int .u8 t186, .int .u8 t187, .int .u8 t188] 26 (0, 0)) (by (with_reducible repeat (first | refine blk_drewN ?_ _ | refine blk_drew ?_ | refine blk_alloc ?_ _)); refine blk_put (cs := #[.int .i32 t182, .int .i32 t183, .int .i32 t184, .int .u8 t185, .int .u8 t186, .int .u8 t187, .int .u8 0]) ?_ 6 _ rfl; (with_reducible repeat (first | refine blk_drewN ?_ _ | refine blk_drew ?_ | refine blk_alloc ?_ _)); refine blk_put (cs := #[.int .i32 t182, .int .i32 t183, .int .i32 t184, .int .u8 t185, .int .u8 t186, .int .u8 0, .int .u8 0]) ?_ 5 _ rfl; (with_reducible repeat (first | refine blk_drewN ?_ _ | refine blk_drew ?_ | refine blk_alloc ?_ _)); refine blk_put (cs := #[.int .i32 t182, .int .i32 t183, .int .i32 t184, .int .u8 t185, .int .u8 0, .int .u8 0, .int .u8 0]) ?_ 4 _ rfl; (with_reducible repeat (first | refine blk_drewN ?_ _ | refine blk_drew ?_ | refine blk_alloc ?_ _)); refine blk_put (cs := #[.int .i32 t182, .int .i32 t183, .int .i32 t184, .int .u8 0, .int .u8 0, .int .u8 0, .int .u8 0]) ?_ 3 _ rfl; (with_reducible repeat (first | refine blk_drewN ?_ _ | refine blk_drew ?_ | refine blk_alloc ?_ _)); refine blk_put (cs := #[.int .i32 t182, .int .i32 t183, .int .i32 0, .int .u8 0, .int .u8 0, .int .u8 0, .int .u8 0]) ?_ 2 _ rfl; (with_reducible repeat (first | refine blk_drewN ?_ _ | refine blk_drew ?_ | refine blk_alloc ?_ _)); refine blk_put (cs := #[.int .i32 t182, .int .i32 0, .int .i32 0, .int .u8 0, .int .u8 0, .int .u8 0, .int .u8 0]) ?_ 1 _ rfl; (with_reducible repeat (first | refine blk_drewN ?_ _ | refine blk_drew ?_ | refine blk_alloc ?_ _)); refine blk_put (cs := #[.int .i32 0, .int .i32 0, .int .i32 0, .int .u8 0, .int .u8 0, .int .u8 0, .int .u8 0]) ?_ 0 _ rfl; (with_reducible repeat (first | refine blk_drewN ?_ _ | refine blk_drew ?_ | refine blk_alloc ?_ _)); exact BK190.out) hb); have n3_ := Aside0.mk (below_step (by repeat (first | (with_reducible first | exact HB.out | apply below_alloc | apply pw_below_drewN | apply below_drew1 | refine below_set ?_ GE177.out | refine below_set ?_ GE178.out | refine below_set ?_ GE190.out) | exact HB.out)) hb); clear BK177; clear BK178; clear BK190; clear HB; have BK177 := n0_; have BK178 := n1_; have BK190 := n2_; have HB := n3_; clear n0_ n1_ n2_ n3_; (try clear hb); (try clear hb2); (try clear hk); (try clear hi)) | ((with_reducible refine gate_dst (N := 9) rfl ?_); (try (refine gate_guard (by rfl) ?_; dsimp only)); refine box_event ?hg (N := 9) ?hd (cs := #[.int .i32 0, .int .i32 0, .int .i32 0, .int .u8 0, .int .u8 0, .int .u8 0, .int .u8 0]) (t := 26) ?hr ?_; (case hd => rfl); (case hg => rfl); (case hr => first | (go_simp; done) | (go_simp; rfl)); intro gb199 hg w33 hbox hb; have n0_ := Aside0.mk (blk_below (g := gb177) (o := .cells #[.int .i32 a0_0, .int .i32 a0_1, .int .i32 a0_2, .int .u8 a0_3, .int .u8 a0_4, .int .u8 a0_5, .int .u8 a0_6] 26 (0, 0)) (by (with_reducible repeat (first | refine blk_drewN ?_ _ | refine blk_drew ?_ | refine blk_alloc ?_ _)); exact BK177.out) hb); have n1_ := Aside0.mk (blk_below (g := gb178) (o := .cells #[.int .u8 a2_0, .int .u8 a2_1, .int .u8 a2_2] 24 (0, 0)) (by (with_reducible repeat (first | refine blk_drewN ?_ _ | refine blk_drew ?_ | refine blk_alloc ?_ _)); exact BK178.out) hb); have n2_ := Aside0.mk (blk_below (g := gb190) (o := .cells #[.int .i32 t182, .int .i32 t183, .int .i32 t184, .int .u8 t185, .int .u8 t186, .int .u8 t187, .int .u8 t188] 26 (0, 0)) (by (with_reducible repeat (first | refine blk_drewN ?_ _ | refine blk_drew ?_ | refine blk_alloc ?_ _)); exact BK190.out) hb); have n3_ := Aside0.mk (below_step (by repeat (first | (with_reducible first | exact HB.out | apply below_alloc | apply pw_below_drewN | apply below_drew1 | refine below_set ?_ GE177.out | refine below_set ?_ GE178.out | refine below_set ?_ GE190.out) | exact HB.out)) hb); have n4_ := Aside0.mk (hbox); have n5_ := Aside0.mk ((by rw [hg]; exact (below_size (by repeat (first | (with_reducible first | exact HB.out | apply below_alloc | apply pw_below_drewN | apply below_drew1 | refine below_set ?_ GE177.out | refine below_set ?_ GE178.out | refine below_set ?_ GE190.out) | exact HB.out))) : w.heap.size ≤ gb199)); have n6_ := Aside0.mk ((by rw [hg]; exact (below_size (by repeat (first | (with_reducible first | exact HB.out | apply below_alloc | apply pw_below_drewN | apply below_drew1 | refine below_set ?_ GE177.out | refine below_set ?_ GE178.out | refine below_set ?_ GE190.out) | exact HB.out))) : w.heap.size ≤ gb199)); have n7_ := Aside0.mk ((by rw [hg]; exact Nat.ne_of_lt (blk_lt (g := gb177) (o := .cells #[.int .i32 a0_0, .int .i32 a0_1, .int .i32 a0_2, .int .u8 a0_3, .int .u8 a0_4, .int .u8 a0_5, .int .u8 a0_6] 26 (0, 0)) (by (with_reducible repeat (first | refine blk_drewN ?_ _ | refine blk_drew ?_ | refine blk_alloc ?_ _)); exact BK177.out)) : gb177 ≠ gb199)); have n8_ := Aside0.mk ((by rw [hg]; exact Nat.ne_of_gt (blk_lt (g := gb177) (o := .cells #[.int .i32 a0_0, .int .i32 a0_1, .int .i32 a0_2, .int .u8 a0_3, .int .u8 a0_4, .int .u8 a0_5, .int .u8 a0_6] 26 (0, 0)) (by (with_reducible repeat (first | refine blk_drewN ?_ _ | refine blk_drew ?_ | refine blk_alloc ?_ _)); exact BK177.out)) : gb199 ≠ gb177)); have n9_ := Aside0.mk ((by rw [hg]; exact Nat.ne_of_lt (blk_lt (g := gb178) (o := .cells #[.int .u8 a2_0, .int .u8 a2_1, .int .u8 a2_2] 24 (0, 0)) (by (with_reducible repeat (first | refine blk_drewN ?_ _ | refine blk_drew ?_ | refine blk_alloc ?_ _)); exact BK178.out)) : gb178 ≠ gb199)); have n10_ := Aside0.mk ((by rw [hg]; exact Nat.ne_of_gt (blk_lt (g := gb178) (o := .cells #[.int .u8 a2_0, .int .u8 a2_1, .int .u8 a2_2] 24 (0, 0)) (by (with_reducible repeat (first | refine blk_drewN ?_ _ | refine blk_drew ?_ | refine blk_alloc ?_ _)); exact BK178.out)) : gb199 ≠ gb178)); have n11_ := Aside0.mk ((by rw [hg]; exact Nat.ne_of_lt (blk_lt (g := gb190) (o := .cells #[.int .i32 t182, .int .i32 t183, .int .i32 t184, .int .u8 t185, .int .u8 t186, .int .u8 t187, .int .u8 t188] 26 (0, 0)) (by (with_reducible repeat (first | refine blk_drewN ?_ _ | refine blk_drew ?_ | refine blk_alloc ?_ _)); exact BK190.out)) : gb190 ≠ gb199)); have n12_ := Aside0.mk ((by rw [hg]; exact Nat.ne_of_gt (blk_lt (g := gb190) (o := .cells #[.int .i32 t182, .int .i32 t183, .int .i32 t184, .int .u8 t185, .int .u8 t186, .int .u8 t187, .int .u8 t188] 26 (0, 0)) (by (with_reducible repeat (first | refine blk_drewN ?_ _ | refine blk_drew ?_ | refine blk_alloc ?_ _)); exact BK190.out)) : gb199 ≠ gb190)); clear BK177; clear BK178; clear BK190; clear HB; have BK177 := n0_; have BK178 := n1_; have BK190 := n2_; have HB := n3_; have BK199 := n4_; have GW199 := n5_; have GE199 := n6_; have NB177_199 := n7_; have NB199_177 := n8_; have NB178_199 := n9_; have NB199_178 := n10_; have NB190_199 := n11_; have NB199_190 := n12_; clear n0_ n1_ n2_ n3_ n4_ n5_ n6_ n7_ n8_ n9_ n10_ n11_ n12_; clear hb hbox hg; have hnb34 := NB199_177.out; have hnc34 := NB177_199.out; have hnb35 := NB199_178.out; have hnc35 := NB178_199.out; have hnb36 := NB199_190.out; have hnc36 := NB190_199.out; have hcz37_0 : w33.cell? ⟨gb199, 0, none⟩ = some (.int .i32 0) := (blk_cell BK199.out 0).trans rfl; have hcz37_1 : w33.cell? ⟨gb199, 1, none⟩ = some (.int .i32 0) := (blk_cell BK199.out 1).trans rfl; have hcz37_2 : w33.cell? ⟨gb199, 2, none⟩ = some (.int .i32 0) := (blk_cell BK199.out 2).trans rfl; have hcz37_3 : w33.cell? ⟨gb199, 3, none⟩ = some (.int .u8 0) := (blk_cell BK199.out 3).trans rfl; have hcz37_4 : w33.cell? ⟨gb199, 4, none⟩ = some (.int .u8 0) := (blk_cell BK199.out 4).trans rfl; have hcz37_5 : w33.cell? ⟨gb199, 5, none⟩ = some (.int .u8 0) := (blk_cell BK199.out 5).trans rfl; have hcz37_6 : w33.cell? ⟨gb199, 6, none⟩ = some (.int .u8 0) := (blk_cell BK199.out 6).trans rfl; have hfz37_0 := blk_frozen BK199.out 0; have hfz37_1 := blk_frozen BK199.out 1; have hfz37_2 := blk_frozen BK199.out 2; have hfz37_3 := blk_frozen BK199.out 3; have hfz37_4 := blk_frozen BK199.out 4; have hfz37_5 := blk_frozen BK199.out 5; have hfz37_6 := blk_frozen BK199.out 6))
        (try simp only [Act.put, List.setIfInBounds_toArray, List.set_cons_zero, List.set_cons_succ])
        go_cut [62] (fun v62 wc => ∃ (kq : Nat) (x62_22 : Bool), v62 = .bool x62_22 ∧ Aside0 (prolepsislaw05_CellStays.j1 kq x62_22 a0_0 a0_1 a0_2 a0_3 a0_4 a0_5 a0_6 = some r) ∧ Aside0 (kq ≤ kj3) ∧ Aside0 (wc.heap[gb177]? = some (.cells #[.int .i32 a0_0, .int .i32 a0_1, .int .i32 a0_2, .int .u8 a0_3, .int .u8 a0_4, .int .u8 a0_5, .int .u8 a0_6] 26 (0, 0))) ∧ Aside0 (wc.heap[gb178]? = some (.cells #[.int .u8 a2_0, .int .u8 a2_1, .int .u8 a2_2] 24 (0, 0))) ∧ Aside0 (wc.heap[gb190]? = some (.cells #[.int .i32 t182, .int .i32 t183, .int .i32 t184, .int .u8 t185, .int .u8 t186, .int .u8 t187, .int .u8 t188] 26 (0, 0))) ∧ Aside0 (wc.heap[gb199]? = some (.cells #[.int .i32 t191, .int .i32 t192, .int .i32 t193, .int .u8 t194, .int .u8 t195, .int .u8 t196, .int .u8 t197] 26 (0, 0))) ∧ Aside0 (Below w.heap.size w wc))
        case first =>
          have H := HC23.out
          clear HC23
          by_cases c38 : t189 = true
          · subst c38
            have H1 : ((cell_Right.f t182 t183 t184 t185 t186 t187 t188).bind fun t200 => (if t200 = true then ((cell_Right.f t191 t192 t193 t194 t195 t196 t197).bind fun t201 => (if t201 = true then ((cell_Rest.f a0_0 a0_1 a0_2 a0_3 a0_4 a0_5 a0_6).bind fun bt202 => ((cell_Right.f bt202.1 bt202.2.1 bt202.2.2.1 bt202.2.2.2.1 bt202.2.2.2.2.1 bt202.2.2.2.2.2.1 bt202.2.2.2.2.2.2).bind fun t209 => (if t209 = true then ((cell_Blank.f a2_0 a2_1 a2_2).bind fun bt210 => ((cell_Right.f bt210.1 bt210.2.1 bt210.2.2.1 bt210.2.2.2.1 bt210.2.2.2.2.1 bt210.2.2.2.2.2.1 bt210.2.2.2.2.2.2).bind fun t217 => (if t217 = true then ((cell_With.f a0_0 a0_1 a0_2 a0_3 a0_4 a0_5 a0_6 a2_0 a2_1 a2_2).bind fun bt218 => ((cell_Right.f bt218.1 bt218.2.1 bt218.2.2.1 bt218.2.2.2.1 bt218.2.2.2.2.1 bt218.2.2.2.2.2.1 bt218.2.2.2.2.2.2).bind fun t225 => (prolepsislaw05_CellStays.j1 kj3 (!t225) a0_0 a0_1 a0_2 a0_3 a0_4 a0_5 a0_6))) else (prolepsislaw05_CellStays.j1 kj3 true a0_0 a0_1 a0_2 a0_3 a0_4 a0_5 a0_6)))) else (prolepsislaw05_CellStays.j1 kj3 true a0_0 a0_1 a0_2 a0_3 a0_4 a0_5 a0_6)))) else (prolepsislaw05_CellStays.j1 kj3 true a0_0 a0_1 a0_2 a0_3 a0_4 a0_5 a0_6))) else (prolepsislaw05_CellStays.j1 kj3 true a0_0 a0_1 a0_2 a0_3 a0_4 a0_5 a0_6))) = some r := by rw [if_pos rfl] at H; exact H
            clear H
            have H := H1
            clear H1
            replace H := Option.bind_eq_some_iff.mp H
            obtain ⟨t200, A390, H⟩ := H
            replace H : (if t200 = true then ((cell_Right.f t191 t192 t193 t194 t195 t196 t197).bind fun t201 => (if t201 = true then ((cell_Rest.f a0_0 a0_1 a0_2 a0_3 a0_4 a0_5 a0_6).bind fun bt202 => ((cell_Right.f bt202.1 bt202.2.1 bt202.2.2.1 bt202.2.2.2.1 bt202.2.2.2.2.1 bt202.2.2.2.2.2.1 bt202.2.2.2.2.2.2).bind fun t209 => (if t209 = true then ((cell_Blank.f a2_0 a2_1 a2_2).bind fun bt210 => ((cell_Right.f bt210.1 bt210.2.1 bt210.2.2.1 bt210.2.2.2.1 bt210.2.2.2.2.1 bt210.2.2.2.2.2.1 bt210.2.2.2.2.2.2).bind fun t217 => (if t217 = true then ((cell_With.f a0_0 a0_1 a0_2 a0_3 a0_4 a0_5 a0_6 a2_0 a2_1 a2_2).bind fun bt218 => ((cell_Right.f bt218.1 bt218.2.1 bt218.2.2.1 bt218.2.2.2.1 bt218.2.2.2.2.1 bt218.2.2.2.2.2.1 bt218.2.2.2.2.2.2).bind fun t225 => (prolepsislaw05_CellStays.j1 kj3 (!t225) a0_0 a0_1 a0_2 a0_3 a0_4 a0_5 a0_6))) else (prolepsislaw05_CellStays.j1 kj3 true a0_0 a0_1 a0_2 a0_3 a0_4 a0_5 a0_6)))) else (prolepsislaw05_CellStays.j1 kj3 true a0_0 a0_1 a0_2 a0_3 a0_4 a0_5 a0_6)))) else (prolepsislaw05_CellStays.j1 kj3 true a0_0 a0_1 a0_2 a0_3 a0_4 a0_5 a0_6))) else (prolepsislaw05_CellStays.j1 kj3 true a0_0 a0_1 a0_2 a0_3 a0_4 a0_5 a0_6)) = some r := H
            have A39 := Aside0.mk A390
            clear A390
            by_cases c40 : t200 = true
            · subst c40
              have H1 : ((cell_Right.f t191 t192 t193 t194 t195 t196 t197).bind fun t201 => (if t201 = true then ((cell_Rest.f a0_0 a0_1 a0_2 a0_3 a0_4 a0_5 a0_6).bind fun bt202 => ((cell_Right.f bt202.1 bt202.2.1 bt202.2.2.1 bt202.2.2.2.1 bt202.2.2.2.2.1 bt202.2.2.2.2.2.1 bt202.2.2.2.2.2.2).bind fun t209 => (if t209 = true then ((cell_Blank.f a2_0 a2_1 a2_2).bind fun bt210 => ((cell_Right.f bt210.1 bt210.2.1 bt210.2.2.1 bt210.2.2.2.1 bt210.2.2.2.2.1 bt210.2.2.2.2.2.1 bt210.2.2.2.2.2.2).bind fun t217 => (if t217 = true then ((cell_With.f a0_0 a0_1 a0_2 a0_3 a0_4 a0_5 a0_6 a2_0 a2_1 a2_2).bind fun bt218 => ((cell_Right.f bt218.1 bt218.2.1 bt218.2.2.1 bt218.2.2.2.1 bt218.2.2.2.2.1 bt218.2.2.2.2.2.1 bt218.2.2.2.2.2.2).bind fun t225 => (prolepsislaw05_CellStays.j1 kj3 (!t225) a0_0 a0_1 a0_2 a0_3 a0_4 a0_5 a0_6))) else (prolepsislaw05_CellStays.j1 kj3 true a0_0 a0_1 a0_2 a0_3 a0_4 a0_5 a0_6)))) else (prolepsislaw05_CellStays.j1 kj3 true a0_0 a0_1 a0_2 a0_3 a0_4 a0_5 a0_6)))) else (prolepsislaw05_CellStays.j1 kj3 true a0_0 a0_1 a0_2 a0_3 a0_4 a0_5 a0_6))) = some r := by rw [if_pos rfl] at H; exact H
              clear H
              have H := H1
              clear H1
              replace H := Option.bind_eq_some_iff.mp H
              obtain ⟨t201, A410, H⟩ := H
              replace H : (if t201 = true then ((cell_Rest.f a0_0 a0_1 a0_2 a0_3 a0_4 a0_5 a0_6).bind fun bt202 => ((cell_Right.f bt202.1 bt202.2.1 bt202.2.2.1 bt202.2.2.2.1 bt202.2.2.2.2.1 bt202.2.2.2.2.2.1 bt202.2.2.2.2.2.2).bind fun t209 => (if t209 = true then ((cell_Blank.f a2_0 a2_1 a2_2).bind fun bt210 => ((cell_Right.f bt210.1 bt210.2.1 bt210.2.2.1 bt210.2.2.2.1 bt210.2.2.2.2.1 bt210.2.2.2.2.2.1 bt210.2.2.2.2.2.2).bind fun t217 => (if t217 = true then ((cell_With.f a0_0 a0_1 a0_2 a0_3 a0_4 a0_5 a0_6 a2_0 a2_1 a2_2).bind fun bt218 => ((cell_Right.f bt218.1 bt218.2.1 bt218.2.2.1 bt218.2.2.2.1 bt218.2.2.2.2.1 bt218.2.2.2.2.2.1 bt218.2.2.2.2.2.2).bind fun t225 => (prolepsislaw05_CellStays.j1 kj3 (!t225) a0_0 a0_1 a0_2 a0_3 a0_4 a0_5 a0_6))) else (prolepsislaw05_CellStays.j1 kj3 true a0_0 a0_1 a0_2 a0_3 a0_4 a0_5 a0_6)))) else (prolepsislaw05_CellStays.j1 kj3 true a0_0 a0_1 a0_2 a0_3 a0_4 a0_5 a0_6)))) else (prolepsislaw05_CellStays.j1 kj3 true a0_0 a0_1 a0_2 a0_3 a0_4 a0_5 a0_6)) = some r := H
              have A41 := Aside0.mk A410
              clear A410
              by_cases c42 : t201 = true
              · subst c42
                have H1 : ((cell_Rest.f a0_0 a0_1 a0_2 a0_3 a0_4 a0_5 a0_6).bind fun bt202 => ((cell_Right.f bt202.1 bt202.2.1 bt202.2.2.1 bt202.2.2.2.1 bt202.2.2.2.2.1 bt202.2.2.2.2.2.1 bt202.2.2.2.2.2.2).bind fun t209 => (if t209 = true then ((cell_Blank.f a2_0 a2_1 a2_2).bind fun bt210 => ((cell_Right.f bt210.1 bt210.2.1 bt210.2.2.1 bt210.2.2.2.1 bt210.2.2.2.2.1 bt210.2.2.2.2.2.1 bt210.2.2.2.2.2.2).bind fun t217 => (if t217 = true then ((cell_With.f a0_0 a0_1 a0_2 a0_3 a0_4 a0_5 a0_6 a2_0 a2_1 a2_2).bind fun bt218 => ((cell_Right.f bt218.1 bt218.2.1 bt218.2.2.1 bt218.2.2.2.1 bt218.2.2.2.2.1 bt218.2.2.2.2.2.1 bt218.2.2.2.2.2.2).bind fun t225 => (prolepsislaw05_CellStays.j1 kj3 (!t225) a0_0 a0_1 a0_2 a0_3 a0_4 a0_5 a0_6))) else (prolepsislaw05_CellStays.j1 kj3 true a0_0 a0_1 a0_2 a0_3 a0_4 a0_5 a0_6)))) else (prolepsislaw05_CellStays.j1 kj3 true a0_0 a0_1 a0_2 a0_3 a0_4 a0_5 a0_6)))) = some r := by rw [if_pos rfl] at H; exact H
                clear H
                have H := H1
                clear H1
                replace H := Option.bind_eq_some_iff.mp H
                obtain ⟨⟨t202, t203, t204, t205, t206, t207, t208⟩, A430, H⟩ := H
                replace H : ((cell_Right.f t202 t203 t204 t205 t206 t207 t208).bind fun t209 => (if t209 = true then ((cell_Blank.f a2_0 a2_1 a2_2).bind fun bt210 => ((cell_Right.f bt210.1 bt210.2.1 bt210.2.2.1 bt210.2.2.2.1 bt210.2.2.2.2.1 bt210.2.2.2.2.2.1 bt210.2.2.2.2.2.2).bind fun t217 => (if t217 = true then ((cell_With.f a0_0 a0_1 a0_2 a0_3 a0_4 a0_5 a0_6 a2_0 a2_1 a2_2).bind fun bt218 => ((cell_Right.f bt218.1 bt218.2.1 bt218.2.2.1 bt218.2.2.2.1 bt218.2.2.2.2.1 bt218.2.2.2.2.2.1 bt218.2.2.2.2.2.2).bind fun t225 => (prolepsislaw05_CellStays.j1 kj3 (!t225) a0_0 a0_1 a0_2 a0_3 a0_4 a0_5 a0_6))) else (prolepsislaw05_CellStays.j1 kj3 true a0_0 a0_1 a0_2 a0_3 a0_4 a0_5 a0_6)))) else (prolepsislaw05_CellStays.j1 kj3 true a0_0 a0_1 a0_2 a0_3 a0_4 a0_5 a0_6))) = some r := H
                have A43 := Aside0.mk A430
                clear A430
                replace H := Option.bind_eq_some_iff.mp H
                obtain ⟨t209, A440, H⟩ := H
                replace H : (if t209 = true then ((cell_Blank.f a2_0 a2_1 a2_2).bind fun bt210 => ((cell_Right.f bt210.1 bt210.2.1 bt210.2.2.1 bt210.2.2.2.1 bt210.2.2.2.2.1 bt210.2.2.2.2.2.1 bt210.2.2.2.2.2.2).bind fun t217 => (if t217 = true then ((cell_With.f a0_0 a0_1 a0_2 a0_3 a0_4 a0_5 a0_6 a2_0 a2_1 a2_2).bind fun bt218 => ((cell_Right.f bt218.1 bt218.2.1 bt218.2.2.1 bt218.2.2.2.1 bt218.2.2.2.2.1 bt218.2.2.2.2.2.1 bt218.2.2.2.2.2.2).bind fun t225 => (prolepsislaw05_CellStays.j1 kj3 (!t225) a0_0 a0_1 a0_2 a0_3 a0_4 a0_5 a0_6))) else (prolepsislaw05_CellStays.j1 kj3 true a0_0 a0_1 a0_2 a0_3 a0_4 a0_5 a0_6)))) else (prolepsislaw05_CellStays.j1 kj3 true a0_0 a0_1 a0_2 a0_3 a0_4 a0_5 a0_6)) = some r := H
                have A44 := Aside0.mk A440
                clear A440
                by_cases c45 : t209 = true
                · subst c45
                  have H1 : ((cell_Blank.f a2_0 a2_1 a2_2).bind fun bt210 => ((cell_Right.f bt210.1 bt210.2.1 bt210.2.2.1 bt210.2.2.2.1 bt210.2.2.2.2.1 bt210.2.2.2.2.2.1 bt210.2.2.2.2.2.2).bind fun t217 => (if t217 = true then ((cell_With.f a0_0 a0_1 a0_2 a0_3 a0_4 a0_5 a0_6 a2_0 a2_1 a2_2).bind fun bt218 => ((cell_Right.f bt218.1 bt218.2.1 bt218.2.2.1 bt218.2.2.2.1 bt218.2.2.2.2.1 bt218.2.2.2.2.2.1 bt218.2.2.2.2.2.2).bind fun t225 => (prolepsislaw05_CellStays.j1 kj3 (!t225) a0_0 a0_1 a0_2 a0_3 a0_4 a0_5 a0_6))) else (prolepsislaw05_CellStays.j1 kj3 true a0_0 a0_1 a0_2 a0_3 a0_4 a0_5 a0_6)))) = some r := by rw [if_pos rfl] at H; exact H
                  clear H
                  have H := H1
                  clear H1
                  replace H := Option.bind_eq_some_iff.mp H
                  obtain ⟨⟨t210, t211, t212, t213, t214, t215, t216⟩, A460, H⟩ := H
                  replace H : ((cell_Right.f t210 t211 t212 t213 t214 t215 t216).bind fun t217 => (if t217 = true then ((cell_With.f a0_0 a0_1 a0_2 a0_3 a0_4 a0_5 a0_6 a2_0 a2_1 a2_2).bind fun bt218 => ((cell_Right.f bt218.1 bt218.2.1 bt218.2.2.1 bt218.2.2.2.1 bt218.2.2.2.2.1 bt218.2.2.2.2.2.1 bt218.2.2.2.2.2.2).bind fun t225 => (prolepsislaw05_CellStays.j1 kj3 (!t225) a0_0 a0_1 a0_2 a0_3 a0_4 a0_5 a0_6))) else (prolepsislaw05_CellStays.j1 kj3 true a0_0 a0_1 a0_2 a0_3 a0_4 a0_5 a0_6))) = some r := H
                  have A46 := Aside0.mk A460
                  clear A460
                  replace H := Option.bind_eq_some_iff.mp H
                  obtain ⟨t217, A470, H⟩ := H
                  replace H : (if t217 = true then ((cell_With.f a0_0 a0_1 a0_2 a0_3 a0_4 a0_5 a0_6 a2_0 a2_1 a2_2).bind fun bt218 => ((cell_Right.f bt218.1 bt218.2.1 bt218.2.2.1 bt218.2.2.2.1 bt218.2.2.2.2.1 bt218.2.2.2.2.2.1 bt218.2.2.2.2.2.2).bind fun t225 => (prolepsislaw05_CellStays.j1 kj3 (!t225) a0_0 a0_1 a0_2 a0_3 a0_4 a0_5 a0_6))) else (prolepsislaw05_CellStays.j1 kj3 true a0_0 a0_1 a0_2 a0_3 a0_4 a0_5 a0_6)) = some r := H
                  have A47 := Aside0.mk A470
                  clear A470
                  by_cases c48 : t217 = true
                  · subst c48
                    have H1 : ((cell_With.f a0_0 a0_1 a0_2 a0_3 a0_4 a0_5 a0_6 a2_0 a2_1 a2_2).bind fun bt218 => ((cell_Right.f bt218.1 bt218.2.1 bt218.2.2.1 bt218.2.2.2.1 bt218.2.2.2.2.1 bt218.2.2.2.2.2.1 bt218.2.2.2.2.2.2).bind fun t225 => (prolepsislaw05_CellStays.j1 kj3 (!t225) a0_0 a0_1 a0_2 a0_3 a0_4 a0_5 a0_6))) = some r := by rw [if_pos rfl] at H; exact H
                    clear H
                    have H := H1
                    clear H1
                    replace H := Option.bind_eq_some_iff.mp H
                    obtain ⟨⟨t218, t219, t220, t221, t222, t223, t224⟩, A490, H⟩ := H
                    replace H : ((cell_Right.f t218 t219 t220 t221 t222 t223 t224).bind fun t225 => (prolepsislaw05_CellStays.j1 kj3 (!t225) a0_0 a0_1 a0_2 a0_3 a0_4 a0_5 a0_6)) = some r := H
                    have A49 := Aside0.mk A490
                    clear A490
                    replace H := Option.bind_eq_some_iff.mp H
                    obtain ⟨t225, A500, H⟩ := H
                    replace H : (prolepsislaw05_CellStays.j1 kj3 (!t225) a0_0 a0_1 a0_2 a0_3 a0_4 a0_5 a0_6) = some r := H
                    have A50 := Aside0.mk A500
                    clear A500
                    have H' := Aside0.mk H
                    clear H
                    have hnb51 := NB190_177.out
                    have hnc51 := NB177_190.out
                    have hnb52 := NB190_178.out
                    have hnc52 := NB178_190.out
                    have hnb53 := NB190_199.out
                    have hnc53 := NB199_190.out
                    have hcz54_0 : w33.cell? ⟨gb190, 0, none⟩ = some (.int .i32 t182) := (blk_cell BK190.out 0).trans rfl
                    have hcz54_1 : w33.cell? ⟨gb190, 1, none⟩ = some (.int .i32 t183) := (blk_cell BK190.out 1).trans rfl
                    have hcz54_2 : w33.cell? ⟨gb190, 2, none⟩ = some (.int .i32 t184) := (blk_cell BK190.out 2).trans rfl
                    have hcz54_3 : w33.cell? ⟨gb190, 3, none⟩ = some (.int .u8 t185) := (blk_cell BK190.out 3).trans rfl
                    have hcz54_4 : w33.cell? ⟨gb190, 4, none⟩ = some (.int .u8 t186) := (blk_cell BK190.out 4).trans rfl
                    have hcz54_5 : w33.cell? ⟨gb190, 5, none⟩ = some (.int .u8 t187) := (blk_cell BK190.out 5).trans rfl
                    have hcz54_6 : w33.cell? ⟨gb190, 6, none⟩ = some (.int .u8 t188) := (blk_cell BK190.out 6).trans rfl
                    have hfz54_0 := blk_frozen BK190.out 0
                    have hfz54_1 := blk_frozen BK190.out 1
                    have hfz54_2 := blk_frozen BK190.out 2
                    have hfz54_3 := blk_frozen BK190.out 3
                    have hfz54_4 := blk_frozen BK190.out 4
                    have hfz54_5 := blk_frozen BK190.out 5
                    have hfz54_6 := blk_frozen BK190.out 6
                    go_wp2_with (first | (go_at_call 26; (with_reducible refine (cell_Right.calls t182 t183 t184 t185 t186 t187 t188 true _ A39.out).mono ?_); rintro e w55 ⟨rfl, hb⟩; have n0_ := Aside0.mk (blk_below (g := gb177) (o := .cells #[.int .i32 a0_0, .int .i32 a0_1, .int .i32 a0_2, .int .u8 a0_3, .int .u8 a0_4, .int .u8 a0_5, .int .u8 a0_6] 26 (0, 0)) (by (with_reducible repeat (first | refine blk_drewN ?_ _ | refine blk_drew ?_ | refine blk_alloc ?_ _)); refine blk_far ?_ NB177_199.out _; (with_reducible repeat (first | refine blk_drewN ?_ _ | refine blk_drew ?_ | refine blk_alloc ?_ _)); refine blk_far ?_ NB177_199.out _; (with_reducible repeat (first | refine blk_drewN ?_ _ | refine blk_drew ?_ | refine blk_alloc ?_ _)); refine blk_far ?_ NB177_199.out _; (with_reducible repeat (first | refine blk_drewN ?_ _ | refine blk_drew ?_ | refine blk_alloc ?_ _)); refine blk_far ?_ NB177_199.out _; (with_reducible repeat (first | refine blk_drewN ?_ _ | refine blk_drew ?_ | refine blk_alloc ?_ _)); refine blk_far ?_ NB177_199.out _; (with_reducible repeat (first | refine blk_drewN ?_ _ | refine blk_drew ?_ | refine blk_alloc ?_ _)); refine blk_far ?_ NB177_199.out _; (with_reducible repeat (first | refine blk_drewN ?_ _ | refine blk_drew ?_ | refine blk_alloc ?_ _)); refine blk_far ?_ NB177_199.out _; (with_reducible repeat (first | refine blk_drewN ?_ _ | refine blk_drew ?_ | refine blk_alloc ?_ _)); exact BK177.out) hb); have n1_ := Aside0.mk (blk_below (g := gb178) (o := .cells #[.int .u8 a2_0, .int .u8 a2_1, .int .u8 a2_2] 24 (0, 0)) (by (with_reducible repeat (first | refine blk_drewN ?_ _ | refine blk_drew ?_ | refine blk_alloc ?_ _)); refine blk_far ?_ NB178_199.out _; (with_reducible repeat (first | refine blk_drewN ?_ _ | refine blk_drew ?_ | refine blk_alloc ?_ _)); refine blk_far ?_ NB178_199.out _; (with_reducible repeat (first | refine blk_drewN ?_ _ | refine blk_drew ?_ | refine blk_alloc ?_ _)); refine blk_far ?_ NB178_199.out _; (with_reducible repeat (first | refine blk_drewN ?_ _ | refine blk_drew ?_ | refine blk_alloc ?_ _)); refine blk_far ?_ NB178_199.out _; (with_reducible repeat (first | refine blk_drewN ?_ _ | refine blk_drew ?_ | refine blk_alloc ?_ _)); refine blk_far ?_ NB178_199.out _; (with_reducible repeat (first | refine blk_drewN ?_ _ | refine blk_drew ?_ | refine blk_alloc ?_ _)); refine blk_far ?_ NB178_199.out _; (with_reducible repeat (first | refine blk_drewN ?_ _ | refine blk_drew ?_ | refine blk_alloc ?_ _)); refine blk_far ?_ NB178_199.out _; (with_reducible repeat (first | refine blk_drewN ?_ _ | refine blk_drew ?_ | refine blk_alloc ?_ _)); exact BK178.out) hb); have n2_ := Aside0.mk (blk_below (g := gb190) (o := .cells #[.int .i32 t182, .int .i32 t183, .int .i32 t184, .int .u8 t185, .int .u8 t186, .int .u8 t187, .int .u8 t188] 26 (0, 0)) (by (with_reducible repeat (first | refine blk_drewN ?_ _ | refine blk_drew ?_ | refine blk_alloc ?_ _)); refine blk_far ?_ NB190_199.out _; (with_reducible repeat (first | refine blk_drewN ?_ _ | refine blk_drew ?_ | refine blk_alloc ?_ _)); refine blk_far ?_ NB190_199.out _; (with_reducible repeat (first | refine blk_drewN ?_ _ | refine blk_drew ?_ | refine blk_alloc ?_ _)); refine blk_far ?_ NB190_199.out _; (with_reducible repeat (first | refine blk_drewN ?_ _ | refine blk_drew ?_ | refine blk_alloc ?_ _)); refine blk_far ?_ NB190_199.out _; (with_reducible repeat (first | refine blk_drewN ?_ _ | refine blk_drew ?_ | refine blk_alloc ?_ _)); refine blk_far ?_ NB190_199.out _; (with_reducible repeat (first | refine blk_drewN ?_ _ | refine blk_drew ?_ | refine blk_alloc ?_ _)); refine blk_far ?_ NB190_199.out _; (with_reducible repeat (first | refine blk_drewN ?_ _ | refine blk_drew ?_ | refine blk_alloc ?_ _)); refine blk_far ?_ NB190_199.out _; (with_reducible repeat (first | refine blk_drewN ?_ _ | refine blk_drew ?_ | refine blk_alloc ?_ _)); exact BK190.out) hb); have n3_ := Aside0.mk (blk_below (g := gb199) (o := .cells #[.int .i32 t191, .int .i32 t192, .int .i32 t193, .int .u8 t194, .int .u8 t195, .int .u8 t196, .int .u8 t197] 26 (0, 0)) (by (with_reducible repeat (first | refine blk_drewN ?_ _ | refine blk_drew ?_ | refine blk_alloc ?_ _)); refine blk_put (cs := #[.int .i32 t191, .int .i32 t192, .int .i32 t193, .int .u8 t194, .int .u8 t195, .int .u8 t196, .int .u8 0]) ?_ 6 _ rfl; (with_reducible repeat (first | refine blk_drewN ?_ _ | refine blk_drew ?_ | refine blk_alloc ?_ _)); refine blk_put (cs := #[.int .i32 t191, .int .i32 t192, .int .i32 t193, .int .u8 t194, .int .u8 t195, .int .u8 0, .int .u8 0]) ?_ 5 _ rfl; (with_reducible repeat (first | refine blk_drewN ?_ _ | refine blk_drew ?_ | refine blk_alloc ?_ _)); refine blk_put (cs := #[.int .i32 t191, .int .i32 t192, .int .i32 t193, .int .u8 t194, .int .u8 0, .int .u8 0, .int .u8 0]) ?_ 4 _ rfl; (with_reducible repeat (first | refine blk_drewN ?_ _ | refine blk_drew ?_ | refine blk_alloc ?_ _)); refine blk_put (cs := #[.int .i32 t191, .int .i32 t192, .int .i32 t193, .int .u8 0, .int .u8 0, .int .u8 0, .int .u8 0]) ?_ 3 _ rfl; (with_reducible repeat (first | refine blk_drewN ?_ _ | refine blk_drew ?_ | refine blk_alloc ?_ _)); refine blk_put (cs := #[.int .i32 t191, .int .i32 t192, .int .i32 0, .int .u8 0, .int .u8 0, .int .u8 0, .int .u8 0]) ?_ 2 _ rfl; (with_reducible repeat (first | refine blk_drewN ?_ _ | refine blk_drew ?_ | refine blk_alloc ?_ _)); refine blk_put (cs := #[.int .i32 t191, .int .i32 0, .int .i32 0, .int .u8 0, .int .u8 0, .int .u8 0, .int .u8 0]) ?_ 1 _ rfl; (with_reducible repeat (first | refine blk_drewN ?_ _ | refine blk_drew ?_ | refine blk_alloc ?_ _)); refine blk_put (cs := #[.int .i32 0, .int .i32 0, .int .i32 0, .int .u8 0, .int .u8 0, .int .u8 0, .int .u8 0]) ?_ 0 _ rfl; (with_reducible repeat (first | refine blk_drewN ?_ _ | refine blk_drew ?_ | refine blk_alloc ?_ _)); exact BK199.out) hb); have n4_ := Aside0.mk (below_step (by repeat (first | (with_reducible first | exact HB.out | apply below_alloc | apply pw_below_drewN | apply below_drew1 | refine below_set ?_ GE177.out | refine below_set ?_ GE178.out | refine below_set ?_ GE190.out | refine below_set ?_ GE199.out) | exact HB.out)) hb); clear BK177; clear BK178; clear BK190; clear BK199; clear HB; have BK177 := n0_; have BK178 := n1_; have BK190 := n2_; have BK199 := n3_; have HB := n4_; clear n0_ n1_ n2_ n3_ n4_; (try clear hb); (try clear hb2); (try clear hk); (try clear hi); have hnb56 := NB199_177.out; have hnc56 := NB177_199.out; have hnb57 := NB199_178.out; have hnc57 := NB178_199.out; have hcz58_0 : w55.cell? ⟨gb199, 0, none⟩ = some (.int .i32 t191) := (blk_cell BK199.out 0).trans rfl; have hcz58_1 : w55.cell? ⟨gb199, 1, none⟩ = some (.int .i32 t192) := (blk_cell BK199.out 1).trans rfl; have hcz58_2 : w55.cell? ⟨gb199, 2, none⟩ = some (.int .i32 t193) := (blk_cell BK199.out 2).trans rfl; have hcz58_3 : w55.cell? ⟨gb199, 3, none⟩ = some (.int .u8 t194) := (blk_cell BK199.out 3).trans rfl; have hcz58_4 : w55.cell? ⟨gb199, 4, none⟩ = some (.int .u8 t195) := (blk_cell BK199.out 4).trans rfl; have hcz58_5 : w55.cell? ⟨gb199, 5, none⟩ = some (.int .u8 t196) := (blk_cell BK199.out 5).trans rfl; have hcz58_6 : w55.cell? ⟨gb199, 6, none⟩ = some (.int .u8 t197) := (blk_cell BK199.out 6).trans rfl; have hfz58_0 := blk_frozen BK199.out 0; have hfz58_1 := blk_frozen BK199.out 1; have hfz58_2 := blk_frozen BK199.out 2; have hfz58_3 := blk_frozen BK199.out 3; have hfz58_4 := blk_frozen BK199.out 4; have hfz58_5 := blk_frozen BK199.out 5; have hfz58_6 := blk_frozen BK199.out 6) | (go_at_call 26; (with_reducible refine (cell_Right.calls t191 t192 t193 t194 t195 t196 t197 true _ A41.out).mono ?_); rintro e w59 ⟨rfl, hb⟩; have n0_ := Aside0.mk (blk_below (g := gb177) (o := .cells #[.int .i32 a0_0, .int .i32 a0_1, .int .i32 a0_2, .int .u8 a0_3, .int .u8 a0_4, .int .u8 a0_5, .int .u8 a0_6] 26 (0, 0)) (by (with_reducible repeat (first | refine blk_drewN ?_ _ | refine blk_drew ?_ | refine blk_alloc ?_ _)); exact BK177.out) hb); have n1_ := Aside0.mk (blk_below (g := gb178) (o := .cells #[.int .u8 a2_0, .int .u8 a2_1, .int .u8 a2_2] 24 (0, 0)) (by (with_reducible repeat (first | refine blk_drewN ?_ _ | refine blk_drew ?_ | refine blk_alloc ?_ _)); exact BK178.out) hb); have n2_ := Aside0.mk (blk_below (g := gb190) (o := .cells #[.int .i32 t182, .int .i32 t183, .int .i32 t184, .int .u8 t185, .int .u8 t186, .int .u8 t187, .int .u8 t188] 26 (0, 0)) (by (with_reducible repeat (first | refine blk_drewN ?_ _ | refine blk_drew ?_ | refine blk_alloc ?_ _)); exact BK190.out) hb); have n3_ := Aside0.mk (blk_below (g := gb199) (o := .cells #[.int .i32 t191, .int .i32 t192, .int .i32 t193, .int .u8 t194, .int .u8 t195, .int .u8 t196, .int .u8 t197] 26 (0, 0)) (by (with_reducible repeat (first | refine blk_drewN ?_ _ | refine blk_drew ?_ | refine blk_alloc ?_ _)); exact BK199.out) hb); have n4_ := Aside0.mk (below_step (by repeat (first | (with_reducible first | exact HB.out | apply below_alloc | apply pw_below_drewN | apply below_drew1 | refine below_set ?_ GE177.out | refine below_set ?_ GE178.out | refine below_set ?_ GE190.out | refine below_set ?_ GE199.out) | exact HB.out)) hb); clear BK177; clear BK178; clear BK190; clear BK199; clear HB; have BK177 := n0_; have BK178 := n1_; have BK190 := n2_; have BK199 := n3_; have HB := n4_; clear n0_ n1_ n2_ n3_ n4_; (try clear hb); (try clear hb2); (try clear hk); (try clear hi); have hnb60 := NB177_178.out; have hnc60 := NB178_177.out; have hcz61_0 : w59.cell? ⟨gb177, 0, none⟩ = some (.int .i32 a0_0) := (blk_cell BK177.out 0).trans rfl; have hcz61_1 : w59.cell? ⟨gb177, 1, none⟩ = some (.int .i32 a0_1) := (blk_cell BK177.out 1).trans rfl; have hcz61_2 : w59.cell? ⟨gb177, 2, none⟩ = some (.int .i32 a0_2) := (blk_cell BK177.out 2).trans rfl; have hcz61_3 : w59.cell? ⟨gb177, 3, none⟩ = some (.int .u8 a0_3) := (blk_cell BK177.out 3).trans rfl; have hcz61_4 : w59.cell? ⟨gb177, 4, none⟩ = some (.int .u8 a0_4) := (blk_cell BK177.out 4).trans rfl; have hcz61_5 : w59.cell? ⟨gb177, 5, none⟩ = some (.int .u8 a0_5) := (blk_cell BK177.out 5).trans rfl; have hcz61_6 : w59.cell? ⟨gb177, 6, none⟩ = some (.int .u8 a0_6) := (blk_cell BK177.out 6).trans rfl; have hfz61_0 := blk_frozen BK177.out 0; have hfz61_1 := blk_frozen BK177.out 1; have hfz61_2 := blk_frozen BK177.out 2; have hfz61_3 := blk_frozen BK177.out 3; have hfz61_4 := blk_frozen BK177.out 4; have hfz61_5 := blk_frozen BK177.out 5; have hfz61_6 := blk_frozen BK177.out 6) | (go_at_call 23; (with_reducible refine (cell_Rest.calls a0_0 a0_1 a0_2 a0_3 a0_4 a0_5 a0_6 t202 t203 t204 t205 t206 t207 t208 _ A43.out).mono ?_); rintro e w62 ⟨rfl, hb⟩; have n0_ := Aside0.mk (blk_below (g := gb177) (o := .cells #[.int .i32 a0_0, .int .i32 a0_1, .int .i32 a0_2, .int .u8 a0_3, .int .u8 a0_4, .int .u8 a0_5, .int .u8 a0_6] 26 (0, 0)) (by (with_reducible repeat (first | refine blk_drewN ?_ _ | refine blk_drew ?_ | refine blk_alloc ?_ _)); exact BK177.out) hb); have n1_ := Aside0.mk (blk_below (g := gb178) (o := .cells #[.int .u8 a2_0, .int .u8 a2_1, .int .u8 a2_2] 24 (0, 0)) (by (with_reducible repeat (first | refine blk_drewN ?_ _ | refine blk_drew ?_ | refine blk_alloc ?_ _)); exact BK178.out) hb); have n2_ := Aside0.mk (blk_below (g := gb190) (o := .cells #[.int .i32 t182, .int .i32 t183, .int .i32 t184, .int .u8 t185, .int .u8 t186, .int .u8 t187, .int .u8 t188] 26 (0, 0)) (by (with_reducible repeat (first | refine blk_drewN ?_ _ | refine blk_drew ?_ | refine blk_alloc ?_ _)); exact BK190.out) hb); have n3_ := Aside0.mk (blk_below (g := gb199) (o := .cells #[.int .i32 t191, .int .i32 t192, .int .i32 t193, .int .u8 t194, .int .u8 t195, .int .u8 t196, .int .u8 t197] 26 (0, 0)) (by (with_reducible repeat (first | refine blk_drewN ?_ _ | refine blk_drew ?_ | refine blk_alloc ?_ _)); exact BK199.out) hb); have n4_ := Aside0.mk (below_step (by repeat (first | (with_reducible first | exact HB.out | apply below_alloc | apply pw_below_drewN | apply below_drew1 | refine below_set ?_ GE177.out | refine below_set ?_ GE178.out | refine below_set ?_ GE190.out | refine below_set ?_ GE199.out) | exact HB.out)) hb); clear BK177; clear BK178; clear BK190; clear BK199; clear HB; have BK177 := n0_; have BK178 := n1_; have BK190 := n2_; have BK199 := n3_; have HB := n4_; clear n0_ n1_ n2_ n3_ n4_; (try clear hb); (try clear hb2); (try clear hk); (try clear hi)) | (go_at_call 26; (with_reducible refine (cell_Right.calls t202 t203 t204 t205 t206 t207 t208 true _ A44.out).mono ?_); rintro e w63 ⟨rfl, hb⟩; have n0_ := Aside0.mk (blk_below (g := gb177) (o := .cells #[.int .i32 a0_0, .int .i32 a0_1, .int .i32 a0_2, .int .u8 a0_3, .int .u8 a0_4, .int .u8 a0_5, .int .u8 a0_6] 26 (0, 0)) (by (with_reducible repeat (first | refine blk_drewN ?_ _ | refine blk_drew ?_ | refine blk_alloc ?_ _)); exact BK177.out) hb); have n1_ := Aside0.mk (blk_below (g := gb178) (o := .cells #[.int .u8 a2_0, .int .u8 a2_1, .int .u8 a2_2] 24 (0, 0)) (by (with_reducible repeat (first | refine blk_drewN ?_ _ | refine blk_drew ?_ | refine blk_alloc ?_ _)); exact BK178.out) hb); have n2_ := Aside0.mk (blk_below (g := gb190) (o := .cells #[.int .i32 t182, .int .i32 t183, .int .i32 t184, .int .u8 t185, .int .u8 t186, .int .u8 t187, .int .u8 t188] 26 (0, 0)) (by (with_reducible repeat (first | refine blk_drewN ?_ _ | refine blk_drew ?_ | refine blk_alloc ?_ _)); exact BK190.out) hb); have n3_ := Aside0.mk (blk_below (g := gb199) (o := .cells #[.int .i32 t191, .int .i32 t192, .int .i32 t193, .int .u8 t194, .int .u8 t195, .int .u8 t196, .int .u8 t197] 26 (0, 0)) (by (with_reducible repeat (first | refine blk_drewN ?_ _ | refine blk_drew ?_ | refine blk_alloc ?_ _)); exact BK199.out) hb); have n4_ := Aside0.mk (below_step (by repeat (first | (with_reducible first | exact HB.out | apply below_alloc | apply pw_below_drewN | apply below_drew1 | refine below_set ?_ GE177.out | refine below_set ?_ GE178.out | refine below_set ?_ GE190.out | refine below_set ?_ GE199.out) | exact HB.out)) hb); clear BK177; clear BK178; clear BK190; clear BK199; clear HB; have BK177 := n0_; have BK178 := n1_; have BK190 := n2_; have BK199 := n3_; have HB := n4_; clear n0_ n1_ n2_ n3_ n4_; (try clear hb); (try clear hb2); (try clear hk); (try clear hi); have hcz64_0 : w63.cell? ⟨gb178, 0, none⟩ = some (.int .u8 a2_0) := (blk_cell BK178.out 0).trans rfl; have hcz64_1 : w63.cell? ⟨gb178, 1, none⟩ = some (.int .u8 a2_1) := (blk_cell BK178.out 1).trans rfl; have hcz64_2 : w63.cell? ⟨gb178, 2, none⟩ = some (.int .u8 a2_2) := (blk_cell BK178.out 2).trans rfl; have hfz64_0 := blk_frozen BK178.out 0; have hfz64_1 := blk_frozen BK178.out 1; have hfz64_2 := blk_frozen BK178.out 2) | (go_at_call 21; (with_reducible refine (cell_Blank.calls a2_0 a2_1 a2_2 t210 t211 t212 t213 t214 t215 t216 _ A46.out).mono ?_); rintro e w65 ⟨rfl, hb⟩; have n0_ := Aside0.mk (blk_below (g := gb177) (o := .cells #[.int .i32 a0_0, .int .i32 a0_1, .int .i32 a0_2, .int .u8 a0_3, .int .u8 a0_4, .int .u8 a0_5, .int .u8 a0_6] 26 (0, 0)) (by (with_reducible repeat (first | refine blk_drewN ?_ _ | refine blk_drew ?_ | refine blk_alloc ?_ _)); exact BK177.out) hb); have n1_ := Aside0.mk (blk_below (g := gb178) (o := .cells #[.int .u8 a2_0, .int .u8 a2_1, .int .u8 a2_2] 24 (0, 0)) (by (with_reducible repeat (first | refine blk_drewN ?_ _ | refine blk_drew ?_ | refine blk_alloc ?_ _)); exact BK178.out) hb); have n2_ := Aside0.mk (blk_below (g := gb190) (o := .cells #[.int .i32 t182, .int .i32 t183, .int .i32 t184, .int .u8 t185, .int .u8 t186, .int .u8 t187, .int .u8 t188] 26 (0, 0)) (by (with_reducible repeat (first | refine blk_drewN ?_ _ | refine blk_drew ?_ | refine blk_alloc ?_ _)); exact BK190.out) hb); have n3_ := Aside0.mk (blk_below (g := gb199) (o := .cells #[.int .i32 t191, .int .i32 t192, .int .i32 t193, .int .u8 t194, .int .u8 t195, .int .u8 t196, .int .u8 t197] 26 (0, 0)) (by (with_reducible repeat (first | refine blk_drewN ?_ _ | refine blk_drew ?_ | refine blk_alloc ?_ _)); exact BK199.out) hb); have n4_ := Aside0.mk (below_step (by repeat (first | (with_reducible first | exact HB.out | apply below_alloc | apply pw_below_drewN | apply below_drew1 | refine below_set ?_ GE177.out | refine below_set ?_ GE178.out | refine below_set ?_ GE190.out | refine below_set ?_ GE199.out) | exact HB.out)) hb); clear BK177; clear BK178; clear BK190; clear BK199; clear HB; have BK177 := n0_; have BK178 := n1_; have BK190 := n2_; have BK199 := n3_; have HB := n4_; clear n0_ n1_ n2_ n3_ n4_; (try clear hb); (try clear hb2); (try clear hk); (try clear hi)) | (go_at_call 26; (with_reducible refine (cell_Right.calls t210 t211 t212 t213 t214 t215 t216 true _ A47.out).mono ?_); rintro e w66 ⟨rfl, hb⟩; have n0_ := Aside0.mk (blk_below (g := gb177) (o := .cells #[.int .i32 a0_0, .int .i32 a0_1, .int .i32 a0_2, .int .u8 a0_3, .int .u8 a0_4, .int .u8 a0_5, .int .u8 a0_6] 26 (0, 0)) (by (with_reducible repeat (first | refine blk_drewN ?_ _ | refine blk_drew ?_ | refine blk_alloc ?_ _)); exact BK177.out) hb); have n1_ := Aside0.mk (blk_below (g := gb178) (o := .cells #[.int .u8 a2_0, .int .u8 a2_1, .int .u8 a2_2] 24 (0, 0)) (by (with_reducible repeat (first | refine blk_drewN ?_ _ | refine blk_drew ?_ | refine blk_alloc ?_ _)); exact BK178.out) hb); have n2_ := Aside0.mk (blk_below (g := gb190) (o := .cells #[.int .i32 t182, .int .i32 t183, .int .i32 t184, .int .u8 t185, .int .u8 t186, .int .u8 t187, .int .u8 t188] 26 (0, 0)) (by (with_reducible repeat (first | refine blk_drewN ?_ _ | refine blk_drew ?_ | refine blk_alloc ?_ _)); exact BK190.out) hb); have n3_ := Aside0.mk (blk_below (g := gb199) (o := .cells #[.int .i32 t191, .int .i32 t192, .int .i32 t193, .int .u8 t194, .int .u8 t195, .int .u8 t196, .int .u8 t197] 26 (0, 0)) (by (with_reducible repeat (first | refine blk_drewN ?_ _ | refine blk_drew ?_ | refine blk_alloc ?_ _)); exact BK199.out) hb); have n4_ := Aside0.mk (below_step (by repeat (first | (with_reducible first | exact HB.out | apply below_alloc | apply pw_below_drewN | apply below_drew1 | refine below_set ?_ GE177.out | refine below_set ?_ GE178.out | refine below_set ?_ GE190.out | refine below_set ?_ GE199.out) | exact HB.out)) hb); clear BK177; clear BK178; clear BK190; clear BK199; clear HB; have BK177 := n0_; have BK178 := n1_; have BK190 := n2_; have BK199 := n3_; have HB := n4_; clear n0_ n1_ n2_ n3_ n4_; (try clear hb); (try clear hb2); (try clear hk); (try clear hi); have hcz67_0 : w66.cell? ⟨gb177, 0, none⟩ = some (.int .i32 a0_0) := (blk_cell BK177.out 0).trans rfl; have hcz67_1 : w66.cell? ⟨gb177, 1, none⟩ = some (.int .i32 a0_1) := (blk_cell BK177.out 1).trans rfl; have hcz67_2 : w66.cell? ⟨gb177, 2, none⟩ = some (.int .i32 a0_2) := (blk_cell BK177.out 2).trans rfl; have hcz67_3 : w66.cell? ⟨gb177, 3, none⟩ = some (.int .u8 a0_3) := (blk_cell BK177.out 3).trans rfl; have hcz67_4 : w66.cell? ⟨gb177, 4, none⟩ = some (.int .u8 a0_4) := (blk_cell BK177.out 4).trans rfl; have hcz67_5 : w66.cell? ⟨gb177, 5, none⟩ = some (.int .u8 a0_5) := (blk_cell BK177.out 5).trans rfl; have hcz67_6 : w66.cell? ⟨gb177, 6, none⟩ = some (.int .u8 a0_6) := (blk_cell BK177.out 6).trans rfl; have hfz67_0 := blk_frozen BK177.out 0; have hfz67_1 := blk_frozen BK177.out 1; have hfz67_2 := blk_frozen BK177.out 2; have hfz67_3 := blk_frozen BK177.out 3; have hfz67_4 := blk_frozen BK177.out 4; have hfz67_5 := blk_frozen BK177.out 5; have hfz67_6 := blk_frozen BK177.out 6; have hcz68_0 : w66.cell? ⟨gb178, 0, none⟩ = some (.int .u8 a2_0) := (blk_cell BK178.out 0).trans rfl; have hcz68_1 : w66.cell? ⟨gb178, 1, none⟩ = some (.int .u8 a2_1) := (blk_cell BK178.out 1).trans rfl; have hcz68_2 : w66.cell? ⟨gb178, 2, none⟩ = some (.int .u8 a2_2) := (blk_cell BK178.out 2).trans rfl; have hfz68_0 := blk_frozen BK178.out 0; have hfz68_1 := blk_frozen BK178.out 1; have hfz68_2 := blk_frozen BK178.out 2) | (go_at_call 19; (with_reducible refine (cell_With.calls a0_0 a0_1 a0_2 a0_3 a0_4 a0_5 a0_6 a2_0 a2_1 a2_2 t218 t219 t220 t221 t222 t223 t224 _ A49.out).mono ?_); rintro e w69 ⟨rfl, hb⟩; have n0_ := Aside0.mk (blk_below (g := gb177) (o := .cells #[.int .i32 a0_0, .int .i32 a0_1, .int .i32 a0_2, .int .u8 a0_3, .int .u8 a0_4, .int .u8 a0_5, .int .u8 a0_6] 26 (0, 0)) (by (with_reducible repeat (first | refine blk_drewN ?_ _ | refine blk_drew ?_ | refine blk_alloc ?_ _)); exact BK177.out) hb); have n1_ := Aside0.mk (blk_below (g := gb178) (o := .cells #[.int .u8 a2_0, .int .u8 a2_1, .int .u8 a2_2] 24 (0, 0)) (by (with_reducible repeat (first | refine blk_drewN ?_ _ | refine blk_drew ?_ | refine blk_alloc ?_ _)); exact BK178.out) hb); have n2_ := Aside0.mk (blk_below (g := gb190) (o := .cells #[.int .i32 t182, .int .i32 t183, .int .i32 t184, .int .u8 t185, .int .u8 t186, .int .u8 t187, .int .u8 t188] 26 (0, 0)) (by (with_reducible repeat (first | refine blk_drewN ?_ _ | refine blk_drew ?_ | refine blk_alloc ?_ _)); exact BK190.out) hb); have n3_ := Aside0.mk (blk_below (g := gb199) (o := .cells #[.int .i32 t191, .int .i32 t192, .int .i32 t193, .int .u8 t194, .int .u8 t195, .int .u8 t196, .int .u8 t197] 26 (0, 0)) (by (with_reducible repeat (first | refine blk_drewN ?_ _ | refine blk_drew ?_ | refine blk_alloc ?_ _)); exact BK199.out) hb); have n4_ := Aside0.mk (below_step (by repeat (first | (with_reducible first | exact HB.out | apply below_alloc | apply pw_below_drewN | apply below_drew1 | refine below_set ?_ GE177.out | refine below_set ?_ GE178.out | refine below_set ?_ GE190.out | refine below_set ?_ GE199.out) | exact HB.out)) hb); clear BK177; clear BK178; clear BK190; clear BK199; clear HB; have BK177 := n0_; have BK178 := n1_; have BK190 := n2_; have BK199 := n3_; have HB := n4_; clear n0_ n1_ n2_ n3_ n4_; (try clear hb); (try clear hb2); (try clear hk); (try clear hi)) | (go_at_call 26; (with_reducible refine (cell_Right.calls t218 t219 t220 t221 t222 t223 t224 t225 _ A50.out).mono ?_); rintro e w70 ⟨rfl, hb⟩; have n0_ := Aside0.mk (blk_below (g := gb177) (o := .cells #[.int .i32 a0_0, .int .i32 a0_1, .int .i32 a0_2, .int .u8 a0_3, .int .u8 a0_4, .int .u8 a0_5, .int .u8 a0_6] 26 (0, 0)) (by (with_reducible repeat (first | refine blk_drewN ?_ _ | refine blk_drew ?_ | refine blk_alloc ?_ _)); exact BK177.out) hb); have n1_ := Aside0.mk (blk_below (g := gb178) (o := .cells #[.int .u8 a2_0, .int .u8 a2_1, .int .u8 a2_2] 24 (0, 0)) (by (with_reducible repeat (first | refine blk_drewN ?_ _ | refine blk_drew ?_ | refine blk_alloc ?_ _)); exact BK178.out) hb); have n2_ := Aside0.mk (blk_below (g := gb190) (o := .cells #[.int .i32 t182, .int .i32 t183, .int .i32 t184, .int .u8 t185, .int .u8 t186, .int .u8 t187, .int .u8 t188] 26 (0, 0)) (by (with_reducible repeat (first | refine blk_drewN ?_ _ | refine blk_drew ?_ | refine blk_alloc ?_ _)); exact BK190.out) hb); have n3_ := Aside0.mk (blk_below (g := gb199) (o := .cells #[.int .i32 t191, .int .i32 t192, .int .i32 t193, .int .u8 t194, .int .u8 t195, .int .u8 t196, .int .u8 t197] 26 (0, 0)) (by (with_reducible repeat (first | refine blk_drewN ?_ _ | refine blk_drew ?_ | refine blk_alloc ?_ _)); exact BK199.out) hb); have n4_ := Aside0.mk (below_step (by repeat (first | (with_reducible first | exact HB.out | apply below_alloc | apply pw_below_drewN | apply below_drew1 | refine below_set ?_ GE177.out | refine below_set ?_ GE178.out | refine below_set ?_ GE190.out | refine below_set ?_ GE199.out) | exact HB.out)) hb); clear BK177; clear BK178; clear BK190; clear BK199; clear HB; have BK177 := n0_; have BK178 := n1_; have BK190 := n2_; have BK199 := n3_; have HB := n4_; clear n0_ n1_ n2_ n3_ n4_; (try clear hb); (try clear hb2); (try clear hk); (try clear hi)))
                    go_meet
                    case rel => exact ⟨_, (!t225), (by first | rfl | (simp; done) | (simp [*]; done)), H', ⟨by have := HJ3.out; first | omega | exact Nat.le_refl _⟩, ⟨by (with_reducible repeat (first | refine blk_drewN ?_ _ | refine blk_drew ?_ | refine blk_alloc ?_ _)); exact BK177.out⟩, ⟨by (with_reducible repeat (first | refine blk_drewN ?_ _ | refine blk_drew ?_ | refine blk_alloc ?_ _)); exact BK178.out⟩, ⟨by (with_reducible repeat (first | refine blk_drewN ?_ _ | refine blk_drew ?_ | refine blk_alloc ?_ _)); exact BK190.out⟩, ⟨by (with_reducible repeat (first | refine blk_drewN ?_ _ | refine blk_drew ?_ | refine blk_alloc ?_ _)); exact BK199.out⟩, ⟨by repeat (first | (with_reducible first | exact HB.out | apply below_alloc | apply pw_below_drewN | apply below_drew1 | refine below_set ?_ GE177.out | refine below_set ?_ GE178.out | refine below_set ?_ GE190.out | refine below_set ?_ GE199.out) | exact HB.out)⟩⟩
                  · replace c48 := Bool.eq_false_iff.mpr c48
                    subst c48
                    have H1 : (prolepsislaw05_CellStays.j1 kj3 true a0_0 a0_1 a0_2 a0_3 a0_4 a0_5 a0_6) = some r := by rw [if_neg (show ¬ (false = true) by decide)] at H; exact H
                    clear H
                    have H := H1
                    clear H1
                    have H' := Aside0.mk H
                    clear H
                    have hnb71 := NB190_177.out
                    have hnc71 := NB177_190.out
                    have hnb72 := NB190_178.out
                    have hnc72 := NB178_190.out
                    have hnb73 := NB190_199.out
                    have hnc73 := NB199_190.out
                    have hcz74_0 : w33.cell? ⟨gb190, 0, none⟩ = some (.int .i32 t182) := (blk_cell BK190.out 0).trans rfl
                    have hcz74_1 : w33.cell? ⟨gb190, 1, none⟩ = some (.int .i32 t183) := (blk_cell BK190.out 1).trans rfl
                    have hcz74_2 : w33.cell? ⟨gb190, 2, none⟩ = some (.int .i32 t184) := (blk_cell BK190.out 2).trans rfl
                    have hcz74_3 : w33.cell? ⟨gb190, 3, none⟩ = some (.int .u8 t185) := (blk_cell BK190.out 3).trans rfl
                    have hcz74_4 : w33.cell? ⟨gb190, 4, none⟩ = some (.int .u8 t186) := (blk_cell BK190.out 4).trans rfl
                    have hcz74_5 : w33.cell? ⟨gb190, 5, none⟩ = some (.int .u8 t187) := (blk_cell BK190.out 5).trans rfl
                    have hcz74_6 : w33.cell? ⟨gb190, 6, none⟩ = some (.int .u8 t188) := (blk_cell BK190.out 6).trans rfl
                    have hfz74_0 := blk_frozen BK190.out 0
                    have hfz74_1 := blk_frozen BK190.out 1
                    have hfz74_2 := blk_frozen BK190.out 2
                    have hfz74_3 := blk_frozen BK190.out 3
                    have hfz74_4 := blk_frozen BK190.out 4
                    have hfz74_5 := blk_frozen BK190.out 5
                    have hfz74_6 := blk_frozen BK190.out 6
                    go_wp2_with (first | (go_at_call 26; (with_reducible refine (cell_Right.calls t182 t183 t184 t185 t186 t187 t188 true _ A39.out).mono ?_); rintro e w75 ⟨rfl, hb⟩; have n0_ := Aside0.mk (blk_below (g := gb177) (o := .cells #[.int .i32 a0_0, .int .i32 a0_1, .int .i32 a0_2, .int .u8 a0_3, .int .u8 a0_4, .int .u8 a0_5, .int .u8 a0_6] 26 (0, 0)) (by (with_reducible repeat (first | refine blk_drewN ?_ _ | refine blk_drew ?_ | refine blk_alloc ?_ _)); refine blk_far ?_ NB177_199.out _; (with_reducible repeat (first | refine blk_drewN ?_ _ | refine blk_drew ?_ | refine blk_alloc ?_ _)); refine blk_far ?_ NB177_199.out _; (with_reducible repeat (first | refine blk_drewN ?_ _ | refine blk_drew ?_ | refine blk_alloc ?_ _)); refine blk_far ?_ NB177_199.out _; (with_reducible repeat (first | refine blk_drewN ?_ _ | refine blk_drew ?_ | refine blk_alloc ?_ _)); refine blk_far ?_ NB177_199.out _; (with_reducible repeat (first | refine blk_drewN ?_ _ | refine blk_drew ?_ | refine blk_alloc ?_ _)); refine blk_far ?_ NB177_199.out _; (with_reducible repeat (first | refine blk_drewN ?_ _ | refine blk_drew ?_ | refine blk_alloc ?_ _)); refine blk_far ?_ NB177_199.out _; (with_reducible repeat (first | refine blk_drewN ?_ _ | refine blk_drew ?_ | refine blk_alloc ?_ _)); refine blk_far ?_ NB177_199.out _; (with_reducible repeat (first | refine blk_drewN ?_ _ | refine blk_drew ?_ | refine blk_alloc ?_ _)); exact BK177.out) hb); have n1_ := Aside0.mk (blk_below (g := gb178) (o := .cells #[.int .u8 a2_0, .int .u8 a2_1, .int .u8 a2_2] 24 (0, 0)) (by (with_reducible repeat (first | refine blk_drewN ?_ _ | refine blk_drew ?_ | refine blk_alloc ?_ _)); refine blk_far ?_ NB178_199.out _; (with_reducible repeat (first | refine blk_drewN ?_ _ | refine blk_drew ?_ | refine blk_alloc ?_ _)); refine blk_far ?_ NB178_199.out _; (with_reducible repeat (first | refine blk_drewN ?_ _ | refine blk_drew ?_ | refine blk_alloc ?_ _)); refine blk_far ?_ NB178_199.out _; (with_reducible repeat (first | refine blk_drewN ?_ _ | refine blk_drew ?_ | refine blk_alloc ?_ _)); refine blk_far ?_ NB178_199.out _; (with_reducible repeat (first | refine blk_drewN ?_ _ | refine blk_drew ?_ | refine blk_alloc ?_ _)); refine blk_far ?_ NB178_199.out _; (with_reducible repeat (first | refine blk_drewN ?_ _ | refine blk_drew ?_ | refine blk_alloc ?_ _)); refine blk_far ?_ NB178_199.out _; (with_reducible repeat (first | refine blk_drewN ?_ _ | refine blk_drew ?_ | refine blk_alloc ?_ _)); refine blk_far ?_ NB178_199.out _; (with_reducible repeat (first | refine blk_drewN ?_ _ | refine blk_drew ?_ | refine blk_alloc ?_ _)); exact BK178.out) hb); have n2_ := Aside0.mk (blk_below (g := gb190) (o := .cells #[.int .i32 t182, .int .i32 t183, .int .i32 t184, .int .u8 t185, .int .u8 t186, .int .u8 t187, .int .u8 t188] 26 (0, 0)) (by (with_reducible repeat (first | refine blk_drewN ?_ _ | refine blk_drew ?_ | refine blk_alloc ?_ _)); refine blk_far ?_ NB190_199.out _; (with_reducible repeat (first | refine blk_drewN ?_ _ | refine blk_drew ?_ | refine blk_alloc ?_ _)); refine blk_far ?_ NB190_199.out _; (with_reducible repeat (first | refine blk_drewN ?_ _ | refine blk_drew ?_ | refine blk_alloc ?_ _)); refine blk_far ?_ NB190_199.out _; (with_reducible repeat (first | refine blk_drewN ?_ _ | refine blk_drew ?_ | refine blk_alloc ?_ _)); refine blk_far ?_ NB190_199.out _; (with_reducible repeat (first | refine blk_drewN ?_ _ | refine blk_drew ?_ | refine blk_alloc ?_ _)); refine blk_far ?_ NB190_199.out _; (with_reducible repeat (first | refine blk_drewN ?_ _ | refine blk_drew ?_ | refine blk_alloc ?_ _)); refine blk_far ?_ NB190_199.out _; (with_reducible repeat (first | refine blk_drewN ?_ _ | refine blk_drew ?_ | refine blk_alloc ?_ _)); refine blk_far ?_ NB190_199.out _; (with_reducible repeat (first | refine blk_drewN ?_ _ | refine blk_drew ?_ | refine blk_alloc ?_ _)); exact BK190.out) hb); have n3_ := Aside0.mk (blk_below (g := gb199) (o := .cells #[.int .i32 t191, .int .i32 t192, .int .i32 t193, .int .u8 t194, .int .u8 t195, .int .u8 t196, .int .u8 t197] 26 (0, 0)) (by (with_reducible repeat (first | refine blk_drewN ?_ _ | refine blk_drew ?_ | refine blk_alloc ?_ _)); refine blk_put (cs := #[.int .i32 t191, .int .i32 t192, .int .i32 t193, .int .u8 t194, .int .u8 t195, .int .u8 t196, .int .u8 0]) ?_ 6 _ rfl; (with_reducible repeat (first | refine blk_drewN ?_ _ | refine blk_drew ?_ | refine blk_alloc ?_ _)); refine blk_put (cs := #[.int .i32 t191, .int .i32 t192, .int .i32 t193, .int .u8 t194, .int .u8 t195, .int .u8 0, .int .u8 0]) ?_ 5 _ rfl; (with_reducible repeat (first | refine blk_drewN ?_ _ | refine blk_drew ?_ | refine blk_alloc ?_ _)); refine blk_put (cs := #[.int .i32 t191, .int .i32 t192, .int .i32 t193, .int .u8 t194, .int .u8 0, .int .u8 0, .int .u8 0]) ?_ 4 _ rfl; (with_reducible repeat (first | refine blk_drewN ?_ _ | refine blk_drew ?_ | refine blk_alloc ?_ _)); refine blk_put (cs := #[.int .i32 t191, .int .i32 t192, .int .i32 t193, .int .u8 0, .int .u8 0, .int .u8 0, .int .u8 0]) ?_ 3 _ rfl; (with_reducible repeat (first | refine blk_drewN ?_ _ | refine blk_drew ?_ | refine blk_alloc ?_ _)); refine blk_put (cs := #[.int .i32 t191, .int .i32 t192, .int .i32 0, .int .u8 0, .int .u8 0, .int .u8 0, .int .u8 0]) ?_ 2 _ rfl; (with_reducible repeat (first | refine blk_drewN ?_ _ | refine blk_drew ?_ | refine blk_alloc ?_ _)); refine blk_put (cs := #[.int .i32 t191, .int .i32 0, .int .i32 0, .int .u8 0, .int .u8 0, .int .u8 0, .int .u8 0]) ?_ 1 _ rfl; (with_reducible repeat (first | refine blk_drewN ?_ _ | refine blk_drew ?_ | refine blk_alloc ?_ _)); refine blk_put (cs := #[.int .i32 0, .int .i32 0, .int .i32 0, .int .u8 0, .int .u8 0, .int .u8 0, .int .u8 0]) ?_ 0 _ rfl; (with_reducible repeat (first | refine blk_drewN ?_ _ | refine blk_drew ?_ | refine blk_alloc ?_ _)); exact BK199.out) hb); have n4_ := Aside0.mk (below_step (by repeat (first | (with_reducible first | exact HB.out | apply below_alloc | apply pw_below_drewN | apply below_drew1 | refine below_set ?_ GE177.out | refine below_set ?_ GE178.out | refine below_set ?_ GE190.out | refine below_set ?_ GE199.out) | exact HB.out)) hb); clear BK177; clear BK178; clear BK190; clear BK199; clear HB; have BK177 := n0_; have BK178 := n1_; have BK190 := n2_; have BK199 := n3_; have HB := n4_; clear n0_ n1_ n2_ n3_ n4_; (try clear hb); (try clear hb2); (try clear hk); (try clear hi); have hnb76 := NB199_177.out; have hnc76 := NB177_199.out; have hnb77 := NB199_178.out; have hnc77 := NB178_199.out; have hcz78_0 : w75.cell? ⟨gb199, 0, none⟩ = some (.int .i32 t191) := (blk_cell BK199.out 0).trans rfl; have hcz78_1 : w75.cell? ⟨gb199, 1, none⟩ = some (.int .i32 t192) := (blk_cell BK199.out 1).trans rfl; have hcz78_2 : w75.cell? ⟨gb199, 2, none⟩ = some (.int .i32 t193) := (blk_cell BK199.out 2).trans rfl; have hcz78_3 : w75.cell? ⟨gb199, 3, none⟩ = some (.int .u8 t194) := (blk_cell BK199.out 3).trans rfl; have hcz78_4 : w75.cell? ⟨gb199, 4, none⟩ = some (.int .u8 t195) := (blk_cell BK199.out 4).trans rfl; have hcz78_5 : w75.cell? ⟨gb199, 5, none⟩ = some (.int .u8 t196) := (blk_cell BK199.out 5).trans rfl; have hcz78_6 : w75.cell? ⟨gb199, 6, none⟩ = some (.int .u8 t197) := (blk_cell BK199.out 6).trans rfl; have hfz78_0 := blk_frozen BK199.out 0; have hfz78_1 := blk_frozen BK199.out 1; have hfz78_2 := blk_frozen BK199.out 2; have hfz78_3 := blk_frozen BK199.out 3; have hfz78_4 := blk_frozen BK199.out 4; have hfz78_5 := blk_frozen BK199.out 5; have hfz78_6 := blk_frozen BK199.out 6) | (go_at_call 26; (with_reducible refine (cell_Right.calls t191 t192 t193 t194 t195 t196 t197 true _ A41.out).mono ?_); rintro e w79 ⟨rfl, hb⟩; have n0_ := Aside0.mk (blk_below (g := gb177) (o := .cells #[.int .i32 a0_0, .int .i32 a0_1, .int .i32 a0_2, .int .u8 a0_3, .int .u8 a0_4, .int .u8 a0_5, .int .u8 a0_6] 26 (0, 0)) (by (with_reducible repeat (first | refine blk_drewN ?_ _ | refine blk_drew ?_ | refine blk_alloc ?_ _)); exact BK177.out) hb); have n1_ := Aside0.mk (blk_below (g := gb178) (o := .cells #[.int .u8 a2_0, .int .u8 a2_1, .int .u8 a2_2] 24 (0, 0)) (by (with_reducible repeat (first | refine blk_drewN ?_ _ | refine blk_drew ?_ | refine blk_alloc ?_ _)); exact BK178.out) hb); have n2_ := Aside0.mk (blk_below (g := gb190) (o := .cells #[.int .i32 t182, .int .i32 t183, .int .i32 t184, .int .u8 t185, .int .u8 t186, .int .u8 t187, .int .u8 t188] 26 (0, 0)) (by (with_reducible repeat (first | refine blk_drewN ?_ _ | refine blk_drew ?_ | refine blk_alloc ?_ _)); exact BK190.out) hb); have n3_ := Aside0.mk (blk_below (g := gb199) (o := .cells #[.int .i32 t191, .int .i32 t192, .int .i32 t193, .int .u8 t194, .int .u8 t195, .int .u8 t196, .int .u8 t197] 26 (0, 0)) (by (with_reducible repeat (first | refine blk_drewN ?_ _ | refine blk_drew ?_ | refine blk_alloc ?_ _)); exact BK199.out) hb); have n4_ := Aside0.mk (below_step (by repeat (first | (with_reducible first | exact HB.out | apply below_alloc | apply pw_below_drewN | apply below_drew1 | refine below_set ?_ GE177.out | refine below_set ?_ GE178.out | refine below_set ?_ GE190.out | refine below_set ?_ GE199.out) | exact HB.out)) hb); clear BK177; clear BK178; clear BK190; clear BK199; clear HB; have BK177 := n0_; have BK178 := n1_; have BK190 := n2_; have BK199 := n3_; have HB := n4_; clear n0_ n1_ n2_ n3_ n4_; (try clear hb); (try clear hb2); (try clear hk); (try clear hi); have hnb80 := NB177_178.out; have hnc80 := NB178_177.out; have hcz81_0 : w79.cell? ⟨gb177, 0, none⟩ = some (.int .i32 a0_0) := (blk_cell BK177.out 0).trans rfl; have hcz81_1 : w79.cell? ⟨gb177, 1, none⟩ = some (.int .i32 a0_1) := (blk_cell BK177.out 1).trans rfl; have hcz81_2 : w79.cell? ⟨gb177, 2, none⟩ = some (.int .i32 a0_2) := (blk_cell BK177.out 2).trans rfl; have hcz81_3 : w79.cell? ⟨gb177, 3, none⟩ = some (.int .u8 a0_3) := (blk_cell BK177.out 3).trans rfl; have hcz81_4 : w79.cell? ⟨gb177, 4, none⟩ = some (.int .u8 a0_4) := (blk_cell BK177.out 4).trans rfl; have hcz81_5 : w79.cell? ⟨gb177, 5, none⟩ = some (.int .u8 a0_5) := (blk_cell BK177.out 5).trans rfl; have hcz81_6 : w79.cell? ⟨gb177, 6, none⟩ = some (.int .u8 a0_6) := (blk_cell BK177.out 6).trans rfl; have hfz81_0 := blk_frozen BK177.out 0; have hfz81_1 := blk_frozen BK177.out 1; have hfz81_2 := blk_frozen BK177.out 2; have hfz81_3 := blk_frozen BK177.out 3; have hfz81_4 := blk_frozen BK177.out 4; have hfz81_5 := blk_frozen BK177.out 5; have hfz81_6 := blk_frozen BK177.out 6) | (go_at_call 23; (with_reducible refine (cell_Rest.calls a0_0 a0_1 a0_2 a0_3 a0_4 a0_5 a0_6 t202 t203 t204 t205 t206 t207 t208 _ A43.out).mono ?_); rintro e w82 ⟨rfl, hb⟩; have n0_ := Aside0.mk (blk_below (g := gb177) (o := .cells #[.int .i32 a0_0, .int .i32 a0_1, .int .i32 a0_2, .int .u8 a0_3, .int .u8 a0_4, .int .u8 a0_5, .int .u8 a0_6] 26 (0, 0)) (by (with_reducible repeat (first | refine blk_drewN ?_ _ | refine blk_drew ?_ | refine blk_alloc ?_ _)); exact BK177.out) hb); have n1_ := Aside0.mk (blk_below (g := gb178) (o := .cells #[.int .u8 a2_0, .int .u8 a2_1, .int .u8 a2_2] 24 (0, 0)) (by (with_reducible repeat (first | refine blk_drewN ?_ _ | refine blk_drew ?_ | refine blk_alloc ?_ _)); exact BK178.out) hb); have n2_ := Aside0.mk (blk_below (g := gb190) (o := .cells #[.int .i32 t182, .int .i32 t183, .int .i32 t184, .int .u8 t185, .int .u8 t186, .int .u8 t187, .int .u8 t188] 26 (0, 0)) (by (with_reducible repeat (first | refine blk_drewN ?_ _ | refine blk_drew ?_ | refine blk_alloc ?_ _)); exact BK190.out) hb); have n3_ := Aside0.mk (blk_below (g := gb199) (o := .cells #[.int .i32 t191, .int .i32 t192, .int .i32 t193, .int .u8 t194, .int .u8 t195, .int .u8 t196, .int .u8 t197] 26 (0, 0)) (by (with_reducible repeat (first | refine blk_drewN ?_ _ | refine blk_drew ?_ | refine blk_alloc ?_ _)); exact BK199.out) hb); have n4_ := Aside0.mk (below_step (by repeat (first | (with_reducible first | exact HB.out | apply below_alloc | apply pw_below_drewN | apply below_drew1 | refine below_set ?_ GE177.out | refine below_set ?_ GE178.out | refine below_set ?_ GE190.out | refine below_set ?_ GE199.out) | exact HB.out)) hb); clear BK177; clear BK178; clear BK190; clear BK199; clear HB; have BK177 := n0_; have BK178 := n1_; have BK190 := n2_; have BK199 := n3_; have HB := n4_; clear n0_ n1_ n2_ n3_ n4_; (try clear hb); (try clear hb2); (try clear hk); (try clear hi)) | (go_at_call 26; (with_reducible refine (cell_Right.calls t202 t203 t204 t205 t206 t207 t208 true _ A44.out).mono ?_); rintro e w83 ⟨rfl, hb⟩; have n0_ := Aside0.mk (blk_below (g := gb177) (o := .cells #[.int .i32 a0_0, .int .i32 a0_1, .int .i32 a0_2, .int .u8 a0_3, .int .u8 a0_4, .int .u8 a0_5, .int .u8 a0_6] 26 (0, 0)) (by (with_reducible repeat (first | refine blk_drewN ?_ _ | refine blk_drew ?_ | refine blk_alloc ?_ _)); exact BK177.out) hb); have n1_ := Aside0.mk (blk_below (g := gb178) (o := .cells #[.int .u8 a2_0, .int .u8 a2_1, .int .u8 a2_2] 24 (0, 0)) (by (with_reducible repeat (first | refine blk_drewN ?_ _ | refine blk_drew ?_ | refine blk_alloc ?_ _)); exact BK178.out) hb); have n2_ := Aside0.mk (blk_below (g := gb190) (o := .cells #[.int .i32 t182, .int .i32 t183, .int .i32 t184, .int .u8 t185, .int .u8 t186, .int .u8 t187, .int .u8 t188] 26 (0, 0)) (by (with_reducible repeat (first | refine blk_drewN ?_ _ | refine blk_drew ?_ | refine blk_alloc ?_ _)); exact BK190.out) hb); have n3_ := Aside0.mk (blk_below (g := gb199) (o := .cells #[.int .i32 t191, .int .i32 t192, .int .i32 t193, .int .u8 t194, .int .u8 t195, .int .u8 t196, .int .u8 t197] 26 (0, 0)) (by (with_reducible repeat (first | refine blk_drewN ?_ _ | refine blk_drew ?_ | refine blk_alloc ?_ _)); exact BK199.out) hb); have n4_ := Aside0.mk (below_step (by repeat (first | (with_reducible first | exact HB.out | apply below_alloc | apply pw_below_drewN | apply below_drew1 | refine below_set ?_ GE177.out | refine below_set ?_ GE178.out | refine below_set ?_ GE190.out | refine below_set ?_ GE199.out) | exact HB.out)) hb); clear BK177; clear BK178; clear BK190; clear BK199; clear HB; have BK177 := n0_; have BK178 := n1_; have BK190 := n2_; have BK199 := n3_; have HB := n4_; clear n0_ n1_ n2_ n3_ n4_; (try clear hb); (try clear hb2); (try clear hk); (try clear hi); have hcz84_0 : w83.cell? ⟨gb178, 0, none⟩ = some (.int .u8 a2_0) := (blk_cell BK178.out 0).trans rfl; have hcz84_1 : w83.cell? ⟨gb178, 1, none⟩ = some (.int .u8 a2_1) := (blk_cell BK178.out 1).trans rfl; have hcz84_2 : w83.cell? ⟨gb178, 2, none⟩ = some (.int .u8 a2_2) := (blk_cell BK178.out 2).trans rfl; have hfz84_0 := blk_frozen BK178.out 0; have hfz84_1 := blk_frozen BK178.out 1; have hfz84_2 := blk_frozen BK178.out 2) | (go_at_call 21; (with_reducible refine (cell_Blank.calls a2_0 a2_1 a2_2 t210 t211 t212 t213 t214 t215 t216 _ A46.out).mono ?_); rintro e w85 ⟨rfl, hb⟩; have n0_ := Aside0.mk (blk_below (g := gb177) (o := .cells #[.int .i32 a0_0, .int .i32 a0_1, .int .i32 a0_2, .int .u8 a0_3, .int .u8 a0_4, .int .u8 a0_5, .int .u8 a0_6] 26 (0, 0)) (by (with_reducible repeat (first | refine blk_drewN ?_ _ | refine blk_drew ?_ | refine blk_alloc ?_ _)); exact BK177.out) hb); have n1_ := Aside0.mk (blk_below (g := gb178) (o := .cells #[.int .u8 a2_0, .int .u8 a2_1, .int .u8 a2_2] 24 (0, 0)) (by (with_reducible repeat (first | refine blk_drewN ?_ _ | refine blk_drew ?_ | refine blk_alloc ?_ _)); exact BK178.out) hb); have n2_ := Aside0.mk (blk_below (g := gb190) (o := .cells #[.int .i32 t182, .int .i32 t183, .int .i32 t184, .int .u8 t185, .int .u8 t186, .int .u8 t187, .int .u8 t188] 26 (0, 0)) (by (with_reducible repeat (first | refine blk_drewN ?_ _ | refine blk_drew ?_ | refine blk_alloc ?_ _)); exact BK190.out) hb); have n3_ := Aside0.mk (blk_below (g := gb199) (o := .cells #[.int .i32 t191, .int .i32 t192, .int .i32 t193, .int .u8 t194, .int .u8 t195, .int .u8 t196, .int .u8 t197] 26 (0, 0)) (by (with_reducible repeat (first | refine blk_drewN ?_ _ | refine blk_drew ?_ | refine blk_alloc ?_ _)); exact BK199.out) hb); have n4_ := Aside0.mk (below_step (by repeat (first | (with_reducible first | exact HB.out | apply below_alloc | apply pw_below_drewN | apply below_drew1 | refine below_set ?_ GE177.out | refine below_set ?_ GE178.out | refine below_set ?_ GE190.out | refine below_set ?_ GE199.out) | exact HB.out)) hb); clear BK177; clear BK178; clear BK190; clear BK199; clear HB; have BK177 := n0_; have BK178 := n1_; have BK190 := n2_; have BK199 := n3_; have HB := n4_; clear n0_ n1_ n2_ n3_ n4_; (try clear hb); (try clear hb2); (try clear hk); (try clear hi)) | (go_at_call 26; (with_reducible refine (cell_Right.calls t210 t211 t212 t213 t214 t215 t216 false _ A47.out).mono ?_); rintro e w86 ⟨rfl, hb⟩; have n0_ := Aside0.mk (blk_below (g := gb177) (o := .cells #[.int .i32 a0_0, .int .i32 a0_1, .int .i32 a0_2, .int .u8 a0_3, .int .u8 a0_4, .int .u8 a0_5, .int .u8 a0_6] 26 (0, 0)) (by (with_reducible repeat (first | refine blk_drewN ?_ _ | refine blk_drew ?_ | refine blk_alloc ?_ _)); exact BK177.out) hb); have n1_ := Aside0.mk (blk_below (g := gb178) (o := .cells #[.int .u8 a2_0, .int .u8 a2_1, .int .u8 a2_2] 24 (0, 0)) (by (with_reducible repeat (first | refine blk_drewN ?_ _ | refine blk_drew ?_ | refine blk_alloc ?_ _)); exact BK178.out) hb); have n2_ := Aside0.mk (blk_below (g := gb190) (o := .cells #[.int .i32 t182, .int .i32 t183, .int .i32 t184, .int .u8 t185, .int .u8 t186, .int .u8 t187, .int .u8 t188] 26 (0, 0)) (by (with_reducible repeat (first | refine blk_drewN ?_ _ | refine blk_drew ?_ | refine blk_alloc ?_ _)); exact BK190.out) hb); have n3_ := Aside0.mk (blk_below (g := gb199) (o := .cells #[.int .i32 t191, .int .i32 t192, .int .i32 t193, .int .u8 t194, .int .u8 t195, .int .u8 t196, .int .u8 t197] 26 (0, 0)) (by (with_reducible repeat (first | refine blk_drewN ?_ _ | refine blk_drew ?_ | refine blk_alloc ?_ _)); exact BK199.out) hb); have n4_ := Aside0.mk (below_step (by repeat (first | (with_reducible first | exact HB.out | apply below_alloc | apply pw_below_drewN | apply below_drew1 | refine below_set ?_ GE177.out | refine below_set ?_ GE178.out | refine below_set ?_ GE190.out | refine below_set ?_ GE199.out) | exact HB.out)) hb); clear BK177; clear BK178; clear BK190; clear BK199; clear HB; have BK177 := n0_; have BK178 := n1_; have BK190 := n2_; have BK199 := n3_; have HB := n4_; clear n0_ n1_ n2_ n3_ n4_; (try clear hb); (try clear hb2); (try clear hk); (try clear hi)))
                    go_meet
                    case rel => exact ⟨_, (true), (by first | rfl | (simp; done) | (simp [*]; done)), H', ⟨by have := HJ3.out; first | omega | exact Nat.le_refl _⟩, ⟨by (with_reducible repeat (first | refine blk_drewN ?_ _ | refine blk_drew ?_ | refine blk_alloc ?_ _)); exact BK177.out⟩, ⟨by (with_reducible repeat (first | refine blk_drewN ?_ _ | refine blk_drew ?_ | refine blk_alloc ?_ _)); exact BK178.out⟩, ⟨by (with_reducible repeat (first | refine blk_drewN ?_ _ | refine blk_drew ?_ | refine blk_alloc ?_ _)); exact BK190.out⟩, ⟨by (with_reducible repeat (first | refine blk_drewN ?_ _ | refine blk_drew ?_ | refine blk_alloc ?_ _)); exact BK199.out⟩, ⟨by repeat (first | (with_reducible first | exact HB.out | apply below_alloc | apply pw_below_drewN | apply below_drew1 | refine below_set ?_ GE177.out | refine below_set ?_ GE178.out | refine below_set ?_ GE190.out | refine below_set ?_ GE199.out) | exact HB.out)⟩⟩
                · replace c45 := Bool.eq_false_iff.mpr c45
                  subst c45
                  have H1 : (prolepsislaw05_CellStays.j1 kj3 true a0_0 a0_1 a0_2 a0_3 a0_4 a0_5 a0_6) = some r := by rw [if_neg (show ¬ (false = true) by decide)] at H; exact H
                  clear H
                  have H := H1
                  clear H1
                  have H' := Aside0.mk H
                  clear H
                  have hnb87 := NB190_177.out
                  have hnc87 := NB177_190.out
                  have hnb88 := NB190_178.out
                  have hnc88 := NB178_190.out
                  have hnb89 := NB190_199.out
                  have hnc89 := NB199_190.out
                  have hcz90_0 : w33.cell? ⟨gb190, 0, none⟩ = some (.int .i32 t182) := (blk_cell BK190.out 0).trans rfl
                  have hcz90_1 : w33.cell? ⟨gb190, 1, none⟩ = some (.int .i32 t183) := (blk_cell BK190.out 1).trans rfl
                  have hcz90_2 : w33.cell? ⟨gb190, 2, none⟩ = some (.int .i32 t184) := (blk_cell BK190.out 2).trans rfl
                  have hcz90_3 : w33.cell? ⟨gb190, 3, none⟩ = some (.int .u8 t185) := (blk_cell BK190.out 3).trans rfl
                  have hcz90_4 : w33.cell? ⟨gb190, 4, none⟩ = some (.int .u8 t186) := (blk_cell BK190.out 4).trans rfl
                  have hcz90_5 : w33.cell? ⟨gb190, 5, none⟩ = some (.int .u8 t187) := (blk_cell BK190.out 5).trans rfl
                  have hcz90_6 : w33.cell? ⟨gb190, 6, none⟩ = some (.int .u8 t188) := (blk_cell BK190.out 6).trans rfl
                  have hfz90_0 := blk_frozen BK190.out 0
                  have hfz90_1 := blk_frozen BK190.out 1
                  have hfz90_2 := blk_frozen BK190.out 2
                  have hfz90_3 := blk_frozen BK190.out 3
                  have hfz90_4 := blk_frozen BK190.out 4
                  have hfz90_5 := blk_frozen BK190.out 5
                  have hfz90_6 := blk_frozen BK190.out 6
                  go_wp2_with (first | (go_at_call 26; (with_reducible refine (cell_Right.calls t182 t183 t184 t185 t186 t187 t188 true _ A39.out).mono ?_); rintro e w91 ⟨rfl, hb⟩; have n0_ := Aside0.mk (blk_below (g := gb177) (o := .cells #[.int .i32 a0_0, .int .i32 a0_1, .int .i32 a0_2, .int .u8 a0_3, .int .u8 a0_4, .int .u8 a0_5, .int .u8 a0_6] 26 (0, 0)) (by (with_reducible repeat (first | refine blk_drewN ?_ _ | refine blk_drew ?_ | refine blk_alloc ?_ _)); refine blk_far ?_ NB177_199.out _; (with_reducible repeat (first | refine blk_drewN ?_ _ | refine blk_drew ?_ | refine blk_alloc ?_ _)); refine blk_far ?_ NB177_199.out _; (with_reducible repeat (first | refine blk_drewN ?_ _ | refine blk_drew ?_ | refine blk_alloc ?_ _)); refine blk_far ?_ NB177_199.out _; (with_reducible repeat (first | refine blk_drewN ?_ _ | refine blk_drew ?_ | refine blk_alloc ?_ _)); refine blk_far ?_ NB177_199.out _; (with_reducible repeat (first | refine blk_drewN ?_ _ | refine blk_drew ?_ | refine blk_alloc ?_ _)); refine blk_far ?_ NB177_199.out _; (with_reducible repeat (first | refine blk_drewN ?_ _ | refine blk_drew ?_ | refine blk_alloc ?_ _)); refine blk_far ?_ NB177_199.out _; (with_reducible repeat (first | refine blk_drewN ?_ _ | refine blk_drew ?_ | refine blk_alloc ?_ _)); refine blk_far ?_ NB177_199.out _; (with_reducible repeat (first | refine blk_drewN ?_ _ | refine blk_drew ?_ | refine blk_alloc ?_ _)); exact BK177.out) hb); have n1_ := Aside0.mk (blk_below (g := gb178) (o := .cells #[.int .u8 a2_0, .int .u8 a2_1, .int .u8 a2_2] 24 (0, 0)) (by (with_reducible repeat (first | refine blk_drewN ?_ _ | refine blk_drew ?_ | refine blk_alloc ?_ _)); refine blk_far ?_ NB178_199.out _; (with_reducible repeat (first | refine blk_drewN ?_ _ | refine blk_drew ?_ | refine blk_alloc ?_ _)); refine blk_far ?_ NB178_199.out _; (with_reducible repeat (first | refine blk_drewN ?_ _ | refine blk_drew ?_ | refine blk_alloc ?_ _)); refine blk_far ?_ NB178_199.out _; (with_reducible repeat (first | refine blk_drewN ?_ _ | refine blk_drew ?_ | refine blk_alloc ?_ _)); refine blk_far ?_ NB178_199.out _; (with_reducible repeat (first | refine blk_drewN ?_ _ | refine blk_drew ?_ | refine blk_alloc ?_ _)); refine blk_far ?_ NB178_199.out _; (with_reducible repeat (first | refine blk_drewN ?_ _ | refine blk_drew ?_ | refine blk_alloc ?_ _)); refine blk_far ?_ NB178_199.out _; (with_reducible repeat (first | refine blk_drewN ?_ _ | refine blk_drew ?_ | refine blk_alloc ?_ _)); refine blk_far ?_ NB178_199.out _; (with_reducible repeat (first | refine blk_drewN ?_ _ | refine blk_drew ?_ | refine blk_alloc ?_ _)); exact BK178.out) hb); have n2_ := Aside0.mk (blk_below (g := gb190) (o := .cells #[.int .i32 t182, .int .i32 t183, .int .i32 t184, .int .u8 t185, .int .u8 t186, .int .u8 t187, .int .u8 t188] 26 (0, 0)) (by (with_reducible repeat (first | refine blk_drewN ?_ _ | refine blk_drew ?_ | refine blk_alloc ?_ _)); refine blk_far ?_ NB190_199.out _; (with_reducible repeat (first | refine blk_drewN ?_ _ | refine blk_drew ?_ | refine blk_alloc ?_ _)); refine blk_far ?_ NB190_199.out _; (with_reducible repeat (first | refine blk_drewN ?_ _ | refine blk_drew ?_ | refine blk_alloc ?_ _)); refine blk_far ?_ NB190_199.out _; (with_reducible repeat (first | refine blk_drewN ?_ _ | refine blk_drew ?_ | refine blk_alloc ?_ _)); refine blk_far ?_ NB190_199.out _; (with_reducible repeat (first | refine blk_drewN ?_ _ | refine blk_drew ?_ | refine blk_alloc ?_ _)); refine blk_far ?_ NB190_199.out _; (with_reducible repeat (first | refine blk_drewN ?_ _ | refine blk_drew ?_ | refine blk_alloc ?_ _)); refine blk_far ?_ NB190_199.out _; (with_reducible repeat (first | refine blk_drewN ?_ _ | refine blk_drew ?_ | refine blk_alloc ?_ _)); refine blk_far ?_ NB190_199.out _; (with_reducible repeat (first | refine blk_drewN ?_ _ | refine blk_drew ?_ | refine blk_alloc ?_ _)); exact BK190.out) hb); have n3_ := Aside0.mk (blk_below (g := gb199) (o := .cells #[.int .i32 t191, .int .i32 t192, .int .i32 t193, .int .u8 t194, .int .u8 t195, .int .u8 t196, .int .u8 t197] 26 (0, 0)) (by (with_reducible repeat (first | refine blk_drewN ?_ _ | refine blk_drew ?_ | refine blk_alloc ?_ _)); refine blk_put (cs := #[.int .i32 t191, .int .i32 t192, .int .i32 t193, .int .u8 t194, .int .u8 t195, .int .u8 t196, .int .u8 0]) ?_ 6 _ rfl; (with_reducible repeat (first | refine blk_drewN ?_ _ | refine blk_drew ?_ | refine blk_alloc ?_ _)); refine blk_put (cs := #[.int .i32 t191, .int .i32 t192, .int .i32 t193, .int .u8 t194, .int .u8 t195, .int .u8 0, .int .u8 0]) ?_ 5 _ rfl; (with_reducible repeat (first | refine blk_drewN ?_ _ | refine blk_drew ?_ | refine blk_alloc ?_ _)); refine blk_put (cs := #[.int .i32 t191, .int .i32 t192, .int .i32 t193, .int .u8 t194, .int .u8 0, .int .u8 0, .int .u8 0]) ?_ 4 _ rfl; (with_reducible repeat (first | refine blk_drewN ?_ _ | refine blk_drew ?_ | refine blk_alloc ?_ _)); refine blk_put (cs := #[.int .i32 t191, .int .i32 t192, .int .i32 t193, .int .u8 0, .int .u8 0, .int .u8 0, .int .u8 0]) ?_ 3 _ rfl; (with_reducible repeat (first | refine blk_drewN ?_ _ | refine blk_drew ?_ | refine blk_alloc ?_ _)); refine blk_put (cs := #[.int .i32 t191, .int .i32 t192, .int .i32 0, .int .u8 0, .int .u8 0, .int .u8 0, .int .u8 0]) ?_ 2 _ rfl; (with_reducible repeat (first | refine blk_drewN ?_ _ | refine blk_drew ?_ | refine blk_alloc ?_ _)); refine blk_put (cs := #[.int .i32 t191, .int .i32 0, .int .i32 0, .int .u8 0, .int .u8 0, .int .u8 0, .int .u8 0]) ?_ 1 _ rfl; (with_reducible repeat (first | refine blk_drewN ?_ _ | refine blk_drew ?_ | refine blk_alloc ?_ _)); refine blk_put (cs := #[.int .i32 0, .int .i32 0, .int .i32 0, .int .u8 0, .int .u8 0, .int .u8 0, .int .u8 0]) ?_ 0 _ rfl; (with_reducible repeat (first | refine blk_drewN ?_ _ | refine blk_drew ?_ | refine blk_alloc ?_ _)); exact BK199.out) hb); have n4_ := Aside0.mk (below_step (by repeat (first | (with_reducible first | exact HB.out | apply below_alloc | apply pw_below_drewN | apply below_drew1 | refine below_set ?_ GE177.out | refine below_set ?_ GE178.out | refine below_set ?_ GE190.out | refine below_set ?_ GE199.out) | exact HB.out)) hb); clear BK177; clear BK178; clear BK190; clear BK199; clear HB; have BK177 := n0_; have BK178 := n1_; have BK190 := n2_; have BK199 := n3_; have HB := n4_; clear n0_ n1_ n2_ n3_ n4_; (try clear hb); (try clear hb2); (try clear hk); (try clear hi); have hnb92 := NB199_177.out; have hnc92 := NB177_199.out; have hnb93 := NB199_178.out; have hnc93 := NB178_199.out; have hcz94_0 : w91.cell? ⟨gb199, 0, none⟩ = some (.int .i32 t191) := (blk_cell BK199.out 0).trans rfl; have hcz94_1 : w91.cell? ⟨gb199, 1, none⟩ = some (.int .i32 t192) := (blk_cell BK199.out 1).trans rfl; have hcz94_2 : w91.cell? ⟨gb199, 2, none⟩ = some (.int .i32 t193) := (blk_cell BK199.out 2).trans rfl; have hcz94_3 : w91.cell? ⟨gb199, 3, none⟩ = some (.int .u8 t194) := (blk_cell BK199.out 3).trans rfl; have hcz94_4 : w91.cell? ⟨gb199, 4, none⟩ = some (.int .u8 t195) := (blk_cell BK199.out 4).trans rfl; have hcz94_5 : w91.cell? ⟨gb199, 5, none⟩ = some (.int .u8 t196) := (blk_cell BK199.out 5).trans rfl; have hcz94_6 : w91.cell? ⟨gb199, 6, none⟩ = some (.int .u8 t197) := (blk_cell BK199.out 6).trans rfl; have hfz94_0 := blk_frozen BK199.out 0; have hfz94_1 := blk_frozen BK199.out 1; have hfz94_2 := blk_frozen BK199.out 2; have hfz94_3 := blk_frozen BK199.out 3; have hfz94_4 := blk_frozen BK199.out 4; have hfz94_5 := blk_frozen BK199.out 5; have hfz94_6 := blk_frozen BK199.out 6) | (go_at_call 26; (with_reducible refine (cell_Right.calls t191 t192 t193 t194 t195 t196 t197 true _ A41.out).mono ?_); rintro e w95 ⟨rfl, hb⟩; have n0_ := Aside0.mk (blk_below (g := gb177) (o := .cells #[.int .i32 a0_0, .int .i32 a0_1, .int .i32 a0_2, .int .u8 a0_3, .int .u8 a0_4, .int .u8 a0_5, .int .u8 a0_6] 26 (0, 0)) (by (with_reducible repeat (first | refine blk_drewN ?_ _ | refine blk_drew ?_ | refine blk_alloc ?_ _)); exact BK177.out) hb); have n1_ := Aside0.mk (blk_below (g := gb178) (o := .cells #[.int .u8 a2_0, .int .u8 a2_1, .int .u8 a2_2] 24 (0, 0)) (by (with_reducible repeat (first | refine blk_drewN ?_ _ | refine blk_drew ?_ | refine blk_alloc ?_ _)); exact BK178.out) hb); have n2_ := Aside0.mk (blk_below (g := gb190) (o := .cells #[.int .i32 t182, .int .i32 t183, .int .i32 t184, .int .u8 t185, .int .u8 t186, .int .u8 t187, .int .u8 t188] 26 (0, 0)) (by (with_reducible repeat (first | refine blk_drewN ?_ _ | refine blk_drew ?_ | refine blk_alloc ?_ _)); exact BK190.out) hb); have n3_ := Aside0.mk (blk_below (g := gb199) (o := .cells #[.int .i32 t191, .int .i32 t192, .int .i32 t193, .int .u8 t194, .int .u8 t195, .int .u8 t196, .int .u8 t197] 26 (0, 0)) (by (with_reducible repeat (first | refine blk_drewN ?_ _ | refine blk_drew ?_ | refine blk_alloc ?_ _)); exact BK199.out) hb); have n4_ := Aside0.mk (below_step (by repeat (first | (with_reducible first | exact HB.out | apply below_alloc | apply pw_below_drewN | apply below_drew1 | refine below_set ?_ GE177.out | refine below_set ?_ GE178.out | refine below_set ?_ GE190.out | refine below_set ?_ GE199.out) | exact HB.out)) hb); clear BK177; clear BK178; clear BK190; clear BK199; clear HB; have BK177 := n0_; have BK178 := n1_; have BK190 := n2_; have BK199 := n3_; have HB := n4_; clear n0_ n1_ n2_ n3_ n4_; (try clear hb); (try clear hb2); (try clear hk); (try clear hi); have hnb96 := NB177_178.out; have hnc96 := NB178_177.out; have hcz97_0 : w95.cell? ⟨gb177, 0, none⟩ = some (.int .i32 a0_0) := (blk_cell BK177.out 0).trans rfl; have hcz97_1 : w95.cell? ⟨gb177, 1, none⟩ = some (.int .i32 a0_1) := (blk_cell BK177.out 1).trans rfl; have hcz97_2 : w95.cell? ⟨gb177, 2, none⟩ = some (.int .i32 a0_2) := (blk_cell BK177.out 2).trans rfl; have hcz97_3 : w95.cell? ⟨gb177, 3, none⟩ = some (.int .u8 a0_3) := (blk_cell BK177.out 3).trans rfl; have hcz97_4 : w95.cell? ⟨gb177, 4, none⟩ = some (.int .u8 a0_4) := (blk_cell BK177.out 4).trans rfl; have hcz97_5 : w95.cell? ⟨gb177, 5, none⟩ = some (.int .u8 a0_5) := (blk_cell BK177.out 5).trans rfl; have hcz97_6 : w95.cell? ⟨gb177, 6, none⟩ = some (.int .u8 a0_6) := (blk_cell BK177.out 6).trans rfl; have hfz97_0 := blk_frozen BK177.out 0; have hfz97_1 := blk_frozen BK177.out 1; have hfz97_2 := blk_frozen BK177.out 2; have hfz97_3 := blk_frozen BK177.out 3; have hfz97_4 := blk_frozen BK177.out 4; have hfz97_5 := blk_frozen BK177.out 5; have hfz97_6 := blk_frozen BK177.out 6) | (go_at_call 23; (with_reducible refine (cell_Rest.calls a0_0 a0_1 a0_2 a0_3 a0_4 a0_5 a0_6 t202 t203 t204 t205 t206 t207 t208 _ A43.out).mono ?_); rintro e w98 ⟨rfl, hb⟩; have n0_ := Aside0.mk (blk_below (g := gb177) (o := .cells #[.int .i32 a0_0, .int .i32 a0_1, .int .i32 a0_2, .int .u8 a0_3, .int .u8 a0_4, .int .u8 a0_5, .int .u8 a0_6] 26 (0, 0)) (by (with_reducible repeat (first | refine blk_drewN ?_ _ | refine blk_drew ?_ | refine blk_alloc ?_ _)); exact BK177.out) hb); have n1_ := Aside0.mk (blk_below (g := gb178) (o := .cells #[.int .u8 a2_0, .int .u8 a2_1, .int .u8 a2_2] 24 (0, 0)) (by (with_reducible repeat (first | refine blk_drewN ?_ _ | refine blk_drew ?_ | refine blk_alloc ?_ _)); exact BK178.out) hb); have n2_ := Aside0.mk (blk_below (g := gb190) (o := .cells #[.int .i32 t182, .int .i32 t183, .int .i32 t184, .int .u8 t185, .int .u8 t186, .int .u8 t187, .int .u8 t188] 26 (0, 0)) (by (with_reducible repeat (first | refine blk_drewN ?_ _ | refine blk_drew ?_ | refine blk_alloc ?_ _)); exact BK190.out) hb); have n3_ := Aside0.mk (blk_below (g := gb199) (o := .cells #[.int .i32 t191, .int .i32 t192, .int .i32 t193, .int .u8 t194, .int .u8 t195, .int .u8 t196, .int .u8 t197] 26 (0, 0)) (by (with_reducible repeat (first | refine blk_drewN ?_ _ | refine blk_drew ?_ | refine blk_alloc ?_ _)); exact BK199.out) hb); have n4_ := Aside0.mk (below_step (by repeat (first | (with_reducible first | exact HB.out | apply below_alloc | apply pw_below_drewN | apply below_drew1 | refine below_set ?_ GE177.out | refine below_set ?_ GE178.out | refine below_set ?_ GE190.out | refine below_set ?_ GE199.out) | exact HB.out)) hb); clear BK177; clear BK178; clear BK190; clear BK199; clear HB; have BK177 := n0_; have BK178 := n1_; have BK190 := n2_; have BK199 := n3_; have HB := n4_; clear n0_ n1_ n2_ n3_ n4_; (try clear hb); (try clear hb2); (try clear hk); (try clear hi)) | (go_at_call 26; (with_reducible refine (cell_Right.calls t202 t203 t204 t205 t206 t207 t208 false _ A44.out).mono ?_); rintro e w99 ⟨rfl, hb⟩; have n0_ := Aside0.mk (blk_below (g := gb177) (o := .cells #[.int .i32 a0_0, .int .i32 a0_1, .int .i32 a0_2, .int .u8 a0_3, .int .u8 a0_4, .int .u8 a0_5, .int .u8 a0_6] 26 (0, 0)) (by (with_reducible repeat (first | refine blk_drewN ?_ _ | refine blk_drew ?_ | refine blk_alloc ?_ _)); exact BK177.out) hb); have n1_ := Aside0.mk (blk_below (g := gb178) (o := .cells #[.int .u8 a2_0, .int .u8 a2_1, .int .u8 a2_2] 24 (0, 0)) (by (with_reducible repeat (first | refine blk_drewN ?_ _ | refine blk_drew ?_ | refine blk_alloc ?_ _)); exact BK178.out) hb); have n2_ := Aside0.mk (blk_below (g := gb190) (o := .cells #[.int .i32 t182, .int .i32 t183, .int .i32 t184, .int .u8 t185, .int .u8 t186, .int .u8 t187, .int .u8 t188] 26 (0, 0)) (by (with_reducible repeat (first | refine blk_drewN ?_ _ | refine blk_drew ?_ | refine blk_alloc ?_ _)); exact BK190.out) hb); have n3_ := Aside0.mk (blk_below (g := gb199) (o := .cells #[.int .i32 t191, .int .i32 t192, .int .i32 t193, .int .u8 t194, .int .u8 t195, .int .u8 t196, .int .u8 t197] 26 (0, 0)) (by (with_reducible repeat (first | refine blk_drewN ?_ _ | refine blk_drew ?_ | refine blk_alloc ?_ _)); exact BK199.out) hb); have n4_ := Aside0.mk (below_step (by repeat (first | (with_reducible first | exact HB.out | apply below_alloc | apply pw_below_drewN | apply below_drew1 | refine below_set ?_ GE177.out | refine below_set ?_ GE178.out | refine below_set ?_ GE190.out | refine below_set ?_ GE199.out) | exact HB.out)) hb); clear BK177; clear BK178; clear BK190; clear BK199; clear HB; have BK177 := n0_; have BK178 := n1_; have BK190 := n2_; have BK199 := n3_; have HB := n4_; clear n0_ n1_ n2_ n3_ n4_; (try clear hb); (try clear hb2); (try clear hk); (try clear hi)))
                  go_meet
                  case rel => exact ⟨_, (true), (by first | rfl | (simp; done) | (simp [*]; done)), H', ⟨by have := HJ3.out; first | omega | exact Nat.le_refl _⟩, ⟨by (with_reducible repeat (first | refine blk_drewN ?_ _ | refine blk_drew ?_ | refine blk_alloc ?_ _)); exact BK177.out⟩, ⟨by (with_reducible repeat (first | refine blk_drewN ?_ _ | refine blk_drew ?_ | refine blk_alloc ?_ _)); exact BK178.out⟩, ⟨by (with_reducible repeat (first | refine blk_drewN ?_ _ | refine blk_drew ?_ | refine blk_alloc ?_ _)); exact BK190.out⟩, ⟨by (with_reducible repeat (first | refine blk_drewN ?_ _ | refine blk_drew ?_ | refine blk_alloc ?_ _)); exact BK199.out⟩, ⟨by repeat (first | (with_reducible first | exact HB.out | apply below_alloc | apply pw_below_drewN | apply below_drew1 | refine below_set ?_ GE177.out | refine below_set ?_ GE178.out | refine below_set ?_ GE190.out | refine below_set ?_ GE199.out) | exact HB.out)⟩⟩
              · replace c42 := Bool.eq_false_iff.mpr c42
                subst c42
                have H1 : (prolepsislaw05_CellStays.j1 kj3 true a0_0 a0_1 a0_2 a0_3 a0_4 a0_5 a0_6) = some r := by rw [if_neg (show ¬ (false = true) by decide)] at H; exact H
                clear H
                have H := H1
                clear H1
                have H' := Aside0.mk H
                clear H
                have hnb100 := NB190_177.out
                have hnc100 := NB177_190.out
                have hnb101 := NB190_178.out
                have hnc101 := NB178_190.out
                have hnb102 := NB190_199.out
                have hnc102 := NB199_190.out
                have hcz103_0 : w33.cell? ⟨gb190, 0, none⟩ = some (.int .i32 t182) := (blk_cell BK190.out 0).trans rfl
                have hcz103_1 : w33.cell? ⟨gb190, 1, none⟩ = some (.int .i32 t183) := (blk_cell BK190.out 1).trans rfl
                have hcz103_2 : w33.cell? ⟨gb190, 2, none⟩ = some (.int .i32 t184) := (blk_cell BK190.out 2).trans rfl
                have hcz103_3 : w33.cell? ⟨gb190, 3, none⟩ = some (.int .u8 t185) := (blk_cell BK190.out 3).trans rfl
                have hcz103_4 : w33.cell? ⟨gb190, 4, none⟩ = some (.int .u8 t186) := (blk_cell BK190.out 4).trans rfl
                have hcz103_5 : w33.cell? ⟨gb190, 5, none⟩ = some (.int .u8 t187) := (blk_cell BK190.out 5).trans rfl
                have hcz103_6 : w33.cell? ⟨gb190, 6, none⟩ = some (.int .u8 t188) := (blk_cell BK190.out 6).trans rfl
                have hfz103_0 := blk_frozen BK190.out 0
                have hfz103_1 := blk_frozen BK190.out 1
                have hfz103_2 := blk_frozen BK190.out 2
                have hfz103_3 := blk_frozen BK190.out 3
                have hfz103_4 := blk_frozen BK190.out 4
                have hfz103_5 := blk_frozen BK190.out 5
                have hfz103_6 := blk_frozen BK190.out 6
                go_wp2_with (first | (go_at_call 26; (with_reducible refine (cell_Right.calls t182 t183 t184 t185 t186 t187 t188 true _ A39.out).mono ?_); rintro e w104 ⟨rfl, hb⟩; have n0_ := Aside0.mk (blk_below (g := gb177) (o := .cells #[.int .i32 a0_0, .int .i32 a0_1, .int .i32 a0_2, .int .u8 a0_3, .int .u8 a0_4, .int .u8 a0_5, .int .u8 a0_6] 26 (0, 0)) (by (with_reducible repeat (first | refine blk_drewN ?_ _ | refine blk_drew ?_ | refine blk_alloc ?_ _)); refine blk_far ?_ NB177_199.out _; (with_reducible repeat (first | refine blk_drewN ?_ _ | refine blk_drew ?_ | refine blk_alloc ?_ _)); refine blk_far ?_ NB177_199.out _; (with_reducible repeat (first | refine blk_drewN ?_ _ | refine blk_drew ?_ | refine blk_alloc ?_ _)); refine blk_far ?_ NB177_199.out _; (with_reducible repeat (first | refine blk_drewN ?_ _ | refine blk_drew ?_ | refine blk_alloc ?_ _)); refine blk_far ?_ NB177_199.out _; (with_reducible repeat (first | refine blk_drewN ?_ _ | refine blk_drew ?_ | refine blk_alloc ?_ _)); refine blk_far ?_ NB177_199.out _; (with_reducible repeat (first | refine blk_drewN ?_ _ | refine blk_drew ?_ | refine blk_alloc ?_ _)); refine blk_far ?_ NB177_199.out _; (with_reducible repeat (first | refine blk_drewN ?_ _ | refine blk_drew ?_ | refine blk_alloc ?_ _)); refine blk_far ?_ NB177_199.out _; (with_reducible repeat (first | refine blk_drewN ?_ _ | refine blk_drew ?_ | refine blk_alloc ?_ _)); exact BK177.out) hb); have n1_ := Aside0.mk (blk_below (g := gb178) (o := .cells #[.int .u8 a2_0, .int .u8 a2_1, .int .u8 a2_2] 24 (0, 0)) (by (with_reducible repeat (first | refine blk_drewN ?_ _ | refine blk_drew ?_ | refine blk_alloc ?_ _)); refine blk_far ?_ NB178_199.out _; (with_reducible repeat (first | refine blk_drewN ?_ _ | refine blk_drew ?_ | refine blk_alloc ?_ _)); refine blk_far ?_ NB178_199.out _; (with_reducible repeat (first | refine blk_drewN ?_ _ | refine blk_drew ?_ | refine blk_alloc ?_ _)); refine blk_far ?_ NB178_199.out _; (with_reducible repeat (first | refine blk_drewN ?_ _ | refine blk_drew ?_ | refine blk_alloc ?_ _)); refine blk_far ?_ NB178_199.out _; (with_reducible repeat (first | refine blk_drewN ?_ _ | refine blk_drew ?_ | refine blk_alloc ?_ _)); refine blk_far ?_ NB178_199.out _; (with_reducible repeat (first | refine blk_drewN ?_ _ | refine blk_drew ?_ | refine blk_alloc ?_ _)); refine blk_far ?_ NB178_199.out _; (with_reducible repeat (first | refine blk_drewN ?_ _ | refine blk_drew ?_ | refine blk_alloc ?_ _)); refine blk_far ?_ NB178_199.out _; (with_reducible repeat (first | refine blk_drewN ?_ _ | refine blk_drew ?_ | refine blk_alloc ?_ _)); exact BK178.out) hb); have n2_ := Aside0.mk (blk_below (g := gb190) (o := .cells #[.int .i32 t182, .int .i32 t183, .int .i32 t184, .int .u8 t185, .int .u8 t186, .int .u8 t187, .int .u8 t188] 26 (0, 0)) (by (with_reducible repeat (first | refine blk_drewN ?_ _ | refine blk_drew ?_ | refine blk_alloc ?_ _)); refine blk_far ?_ NB190_199.out _; (with_reducible repeat (first | refine blk_drewN ?_ _ | refine blk_drew ?_ | refine blk_alloc ?_ _)); refine blk_far ?_ NB190_199.out _; (with_reducible repeat (first | refine blk_drewN ?_ _ | refine blk_drew ?_ | refine blk_alloc ?_ _)); refine blk_far ?_ NB190_199.out _; (with_reducible repeat (first | refine blk_drewN ?_ _ | refine blk_drew ?_ | refine blk_alloc ?_ _)); refine blk_far ?_ NB190_199.out _; (with_reducible repeat (first | refine blk_drewN ?_ _ | refine blk_drew ?_ | refine blk_alloc ?_ _)); refine blk_far ?_ NB190_199.out _; (with_reducible repeat (first | refine blk_drewN ?_ _ | refine blk_drew ?_ | refine blk_alloc ?_ _)); refine blk_far ?_ NB190_199.out _; (with_reducible repeat (first | refine blk_drewN ?_ _ | refine blk_drew ?_ | refine blk_alloc ?_ _)); refine blk_far ?_ NB190_199.out _; (with_reducible repeat (first | refine blk_drewN ?_ _ | refine blk_drew ?_ | refine blk_alloc ?_ _)); exact BK190.out) hb); have n3_ := Aside0.mk (blk_below (g := gb199) (o := .cells #[.int .i32 t191, .int .i32 t192, .int .i32 t193, .int .u8 t194, .int .u8 t195, .int .u8 t196, .int .u8 t197] 26 (0, 0)) (by (with_reducible repeat (first | refine blk_drewN ?_ _ | refine blk_drew ?_ | refine blk_alloc ?_ _)); refine blk_put (cs := #[.int .i32 t191, .int .i32 t192, .int .i32 t193, .int .u8 t194, .int .u8 t195, .int .u8 t196, .int .u8 0]) ?_ 6 _ rfl; (with_reducible repeat (first | refine blk_drewN ?_ _ | refine blk_drew ?_ | refine blk_alloc ?_ _)); refine blk_put (cs := #[.int .i32 t191, .int .i32 t192, .int .i32 t193, .int .u8 t194, .int .u8 t195, .int .u8 0, .int .u8 0]) ?_ 5 _ rfl; (with_reducible repeat (first | refine blk_drewN ?_ _ | refine blk_drew ?_ | refine blk_alloc ?_ _)); refine blk_put (cs := #[.int .i32 t191, .int .i32 t192, .int .i32 t193, .int .u8 t194, .int .u8 0, .int .u8 0, .int .u8 0]) ?_ 4 _ rfl; (with_reducible repeat (first | refine blk_drewN ?_ _ | refine blk_drew ?_ | refine blk_alloc ?_ _)); refine blk_put (cs := #[.int .i32 t191, .int .i32 t192, .int .i32 t193, .int .u8 0, .int .u8 0, .int .u8 0, .int .u8 0]) ?_ 3 _ rfl; (with_reducible repeat (first | refine blk_drewN ?_ _ | refine blk_drew ?_ | refine blk_alloc ?_ _)); refine blk_put (cs := #[.int .i32 t191, .int .i32 t192, .int .i32 0, .int .u8 0, .int .u8 0, .int .u8 0, .int .u8 0]) ?_ 2 _ rfl; (with_reducible repeat (first | refine blk_drewN ?_ _ | refine blk_drew ?_ | refine blk_alloc ?_ _)); refine blk_put (cs := #[.int .i32 t191, .int .i32 0, .int .i32 0, .int .u8 0, .int .u8 0, .int .u8 0, .int .u8 0]) ?_ 1 _ rfl; (with_reducible repeat (first | refine blk_drewN ?_ _ | refine blk_drew ?_ | refine blk_alloc ?_ _)); refine blk_put (cs := #[.int .i32 0, .int .i32 0, .int .i32 0, .int .u8 0, .int .u8 0, .int .u8 0, .int .u8 0]) ?_ 0 _ rfl; (with_reducible repeat (first | refine blk_drewN ?_ _ | refine blk_drew ?_ | refine blk_alloc ?_ _)); exact BK199.out) hb); have n4_ := Aside0.mk (below_step (by repeat (first | (with_reducible first | exact HB.out | apply below_alloc | apply pw_below_drewN | apply below_drew1 | refine below_set ?_ GE177.out | refine below_set ?_ GE178.out | refine below_set ?_ GE190.out | refine below_set ?_ GE199.out) | exact HB.out)) hb); clear BK177; clear BK178; clear BK190; clear BK199; clear HB; have BK177 := n0_; have BK178 := n1_; have BK190 := n2_; have BK199 := n3_; have HB := n4_; clear n0_ n1_ n2_ n3_ n4_; (try clear hb); (try clear hb2); (try clear hk); (try clear hi); have hnb105 := NB199_177.out; have hnc105 := NB177_199.out; have hnb106 := NB199_178.out; have hnc106 := NB178_199.out; have hcz107_0 : w104.cell? ⟨gb199, 0, none⟩ = some (.int .i32 t191) := (blk_cell BK199.out 0).trans rfl; have hcz107_1 : w104.cell? ⟨gb199, 1, none⟩ = some (.int .i32 t192) := (blk_cell BK199.out 1).trans rfl; have hcz107_2 : w104.cell? ⟨gb199, 2, none⟩ = some (.int .i32 t193) := (blk_cell BK199.out 2).trans rfl; have hcz107_3 : w104.cell? ⟨gb199, 3, none⟩ = some (.int .u8 t194) := (blk_cell BK199.out 3).trans rfl; have hcz107_4 : w104.cell? ⟨gb199, 4, none⟩ = some (.int .u8 t195) := (blk_cell BK199.out 4).trans rfl; have hcz107_5 : w104.cell? ⟨gb199, 5, none⟩ = some (.int .u8 t196) := (blk_cell BK199.out 5).trans rfl; have hcz107_6 : w104.cell? ⟨gb199, 6, none⟩ = some (.int .u8 t197) := (blk_cell BK199.out 6).trans rfl; have hfz107_0 := blk_frozen BK199.out 0; have hfz107_1 := blk_frozen BK199.out 1; have hfz107_2 := blk_frozen BK199.out 2; have hfz107_3 := blk_frozen BK199.out 3; have hfz107_4 := blk_frozen BK199.out 4; have hfz107_5 := blk_frozen BK199.out 5; have hfz107_6 := blk_frozen BK199.out 6) | (go_at_call 26; (with_reducible refine (cell_Right.calls t191 t192 t193 t194 t195 t196 t197 false _ A41.out).mono ?_); rintro e w108 ⟨rfl, hb⟩; have n0_ := Aside0.mk (blk_below (g := gb177) (o := .cells #[.int .i32 a0_0, .int .i32 a0_1, .int .i32 a0_2, .int .u8 a0_3, .int .u8 a0_4, .int .u8 a0_5, .int .u8 a0_6] 26 (0, 0)) (by (with_reducible repeat (first | refine blk_drewN ?_ _ | refine blk_drew ?_ | refine blk_alloc ?_ _)); exact BK177.out) hb); have n1_ := Aside0.mk (blk_below (g := gb178) (o := .cells #[.int .u8 a2_0, .int .u8 a2_1, .int .u8 a2_2] 24 (0, 0)) (by (with_reducible repeat (first | refine blk_drewN ?_ _ | refine blk_drew ?_ | refine blk_alloc ?_ _)); exact BK178.out) hb); have n2_ := Aside0.mk (blk_below (g := gb190) (o := .cells #[.int .i32 t182, .int .i32 t183, .int .i32 t184, .int .u8 t185, .int .u8 t186, .int .u8 t187, .int .u8 t188] 26 (0, 0)) (by (with_reducible repeat (first | refine blk_drewN ?_ _ | refine blk_drew ?_ | refine blk_alloc ?_ _)); exact BK190.out) hb); have n3_ := Aside0.mk (blk_below (g := gb199) (o := .cells #[.int .i32 t191, .int .i32 t192, .int .i32 t193, .int .u8 t194, .int .u8 t195, .int .u8 t196, .int .u8 t197] 26 (0, 0)) (by (with_reducible repeat (first | refine blk_drewN ?_ _ | refine blk_drew ?_ | refine blk_alloc ?_ _)); exact BK199.out) hb); have n4_ := Aside0.mk (below_step (by repeat (first | (with_reducible first | exact HB.out | apply below_alloc | apply pw_below_drewN | apply below_drew1 | refine below_set ?_ GE177.out | refine below_set ?_ GE178.out | refine below_set ?_ GE190.out | refine below_set ?_ GE199.out) | exact HB.out)) hb); clear BK177; clear BK178; clear BK190; clear BK199; clear HB; have BK177 := n0_; have BK178 := n1_; have BK190 := n2_; have BK199 := n3_; have HB := n4_; clear n0_ n1_ n2_ n3_ n4_; (try clear hb); (try clear hb2); (try clear hk); (try clear hi)))
                go_meet
                case rel => exact ⟨_, (true), (by first | rfl | (simp; done) | (simp [*]; done)), H', ⟨by have := HJ3.out; first | omega | exact Nat.le_refl _⟩, ⟨by (with_reducible repeat (first | refine blk_drewN ?_ _ | refine blk_drew ?_ | refine blk_alloc ?_ _)); exact BK177.out⟩, ⟨by (with_reducible repeat (first | refine blk_drewN ?_ _ | refine blk_drew ?_ | refine blk_alloc ?_ _)); exact BK178.out⟩, ⟨by (with_reducible repeat (first | refine blk_drewN ?_ _ | refine blk_drew ?_ | refine blk_alloc ?_ _)); exact BK190.out⟩, ⟨by (with_reducible repeat (first | refine blk_drewN ?_ _ | refine blk_drew ?_ | refine blk_alloc ?_ _)); exact BK199.out⟩, ⟨by repeat (first | (with_reducible first | exact HB.out | apply below_alloc | apply pw_below_drewN | apply below_drew1 | refine below_set ?_ GE177.out | refine below_set ?_ GE178.out | refine below_set ?_ GE190.out | refine below_set ?_ GE199.out) | exact HB.out)⟩⟩
            · replace c40 := Bool.eq_false_iff.mpr c40
              subst c40
              have H1 : (prolepsislaw05_CellStays.j1 kj3 true a0_0 a0_1 a0_2 a0_3 a0_4 a0_5 a0_6) = some r := by rw [if_neg (show ¬ (false = true) by decide)] at H; exact H
              clear H
              have H := H1
              clear H1
              have H' := Aside0.mk H
              clear H
              have hnb109 := NB190_177.out
              have hnc109 := NB177_190.out
              have hnb110 := NB190_178.out
              have hnc110 := NB178_190.out
              have hnb111 := NB190_199.out
              have hnc111 := NB199_190.out
              have hcz112_0 : w33.cell? ⟨gb190, 0, none⟩ = some (.int .i32 t182) := (blk_cell BK190.out 0).trans rfl
              have hcz112_1 : w33.cell? ⟨gb190, 1, none⟩ = some (.int .i32 t183) := (blk_cell BK190.out 1).trans rfl
              have hcz112_2 : w33.cell? ⟨gb190, 2, none⟩ = some (.int .i32 t184) := (blk_cell BK190.out 2).trans rfl
              have hcz112_3 : w33.cell? ⟨gb190, 3, none⟩ = some (.int .u8 t185) := (blk_cell BK190.out 3).trans rfl
              have hcz112_4 : w33.cell? ⟨gb190, 4, none⟩ = some (.int .u8 t186) := (blk_cell BK190.out 4).trans rfl
              have hcz112_5 : w33.cell? ⟨gb190, 5, none⟩ = some (.int .u8 t187) := (blk_cell BK190.out 5).trans rfl
              have hcz112_6 : w33.cell? ⟨gb190, 6, none⟩ = some (.int .u8 t188) := (blk_cell BK190.out 6).trans rfl
              have hfz112_0 := blk_frozen BK190.out 0
              have hfz112_1 := blk_frozen BK190.out 1
              have hfz112_2 := blk_frozen BK190.out 2
              have hfz112_3 := blk_frozen BK190.out 3
              have hfz112_4 := blk_frozen BK190.out 4
              have hfz112_5 := blk_frozen BK190.out 5
              have hfz112_6 := blk_frozen BK190.out 6
              go_wp2_with (first | (go_at_call 26; (with_reducible refine (cell_Right.calls t182 t183 t184 t185 t186 t187 t188 false _ A39.out).mono ?_); rintro e w113 ⟨rfl, hb⟩; have n0_ := Aside0.mk (blk_below (g := gb177) (o := .cells #[.int .i32 a0_0, .int .i32 a0_1, .int .i32 a0_2, .int .u8 a0_3, .int .u8 a0_4, .int .u8 a0_5, .int .u8 a0_6] 26 (0, 0)) (by (with_reducible repeat (first | refine blk_drewN ?_ _ | refine blk_drew ?_ | refine blk_alloc ?_ _)); refine blk_far ?_ NB177_199.out _; (with_reducible repeat (first | refine blk_drewN ?_ _ | refine blk_drew ?_ | refine blk_alloc ?_ _)); refine blk_far ?_ NB177_199.out _; (with_reducible repeat (first | refine blk_drewN ?_ _ | refine blk_drew ?_ | refine blk_alloc ?_ _)); refine blk_far ?_ NB177_199.out _; (with_reducible repeat (first | refine blk_drewN ?_ _ | refine blk_drew ?_ | refine blk_alloc ?_ _)); refine blk_far ?_ NB177_199.out _; (with_reducible repeat (first | refine blk_drewN ?_ _ | refine blk_drew ?_ | refine blk_alloc ?_ _)); refine blk_far ?_ NB177_199.out _; (with_reducible repeat (first | refine blk_drewN ?_ _ | refine blk_drew ?_ | refine blk_alloc ?_ _)); refine blk_far ?_ NB177_199.out _; (with_reducible repeat (first | refine blk_drewN ?_ _ | refine blk_drew ?_ | refine blk_alloc ?_ _)); refine blk_far ?_ NB177_199.out _; (with_reducible repeat (first | refine blk_drewN ?_ _ | refine blk_drew ?_ | refine blk_alloc ?_ _)); exact BK177.out) hb); have n1_ := Aside0.mk (blk_below (g := gb178) (o := .cells #[.int .u8 a2_0, .int .u8 a2_1, .int .u8 a2_2] 24 (0, 0)) (by (with_reducible repeat (first | refine blk_drewN ?_ _ | refine blk_drew ?_ | refine blk_alloc ?_ _)); refine blk_far ?_ NB178_199.out _; (with_reducible repeat (first | refine blk_drewN ?_ _ | refine blk_drew ?_ | refine blk_alloc ?_ _)); refine blk_far ?_ NB178_199.out _; (with_reducible repeat (first | refine blk_drewN ?_ _ | refine blk_drew ?_ | refine blk_alloc ?_ _)); refine blk_far ?_ NB178_199.out _; (with_reducible repeat (first | refine blk_drewN ?_ _ | refine blk_drew ?_ | refine blk_alloc ?_ _)); refine blk_far ?_ NB178_199.out _; (with_reducible repeat (first | refine blk_drewN ?_ _ | refine blk_drew ?_ | refine blk_alloc ?_ _)); refine blk_far ?_ NB178_199.out _; (with_reducible repeat (first | refine blk_drewN ?_ _ | refine blk_drew ?_ | refine blk_alloc ?_ _)); refine blk_far ?_ NB178_199.out _; (with_reducible repeat (first | refine blk_drewN ?_ _ | refine blk_drew ?_ | refine blk_alloc ?_ _)); refine blk_far ?_ NB178_199.out _; (with_reducible repeat (first | refine blk_drewN ?_ _ | refine blk_drew ?_ | refine blk_alloc ?_ _)); exact BK178.out) hb); have n2_ := Aside0.mk (blk_below (g := gb190) (o := .cells #[.int .i32 t182, .int .i32 t183, .int .i32 t184, .int .u8 t185, .int .u8 t186, .int .u8 t187, .int .u8 t188] 26 (0, 0)) (by (with_reducible repeat (first | refine blk_drewN ?_ _ | refine blk_drew ?_ | refine blk_alloc ?_ _)); refine blk_far ?_ NB190_199.out _; (with_reducible repeat (first | refine blk_drewN ?_ _ | refine blk_drew ?_ | refine blk_alloc ?_ _)); refine blk_far ?_ NB190_199.out _; (with_reducible repeat (first | refine blk_drewN ?_ _ | refine blk_drew ?_ | refine blk_alloc ?_ _)); refine blk_far ?_ NB190_199.out _; (with_reducible repeat (first | refine blk_drewN ?_ _ | refine blk_drew ?_ | refine blk_alloc ?_ _)); refine blk_far ?_ NB190_199.out _; (with_reducible repeat (first | refine blk_drewN ?_ _ | refine blk_drew ?_ | refine blk_alloc ?_ _)); refine blk_far ?_ NB190_199.out _; (with_reducible repeat (first | refine blk_drewN ?_ _ | refine blk_drew ?_ | refine blk_alloc ?_ _)); refine blk_far ?_ NB190_199.out _; (with_reducible repeat (first | refine blk_drewN ?_ _ | refine blk_drew ?_ | refine blk_alloc ?_ _)); refine blk_far ?_ NB190_199.out _; (with_reducible repeat (first | refine blk_drewN ?_ _ | refine blk_drew ?_ | refine blk_alloc ?_ _)); exact BK190.out) hb); have n3_ := Aside0.mk (blk_below (g := gb199) (o := .cells #[.int .i32 t191, .int .i32 t192, .int .i32 t193, .int .u8 t194, .int .u8 t195, .int .u8 t196, .int .u8 t197] 26 (0, 0)) (by (with_reducible repeat (first | refine blk_drewN ?_ _ | refine blk_drew ?_ | refine blk_alloc ?_ _)); refine blk_put (cs := #[.int .i32 t191, .int .i32 t192, .int .i32 t193, .int .u8 t194, .int .u8 t195, .int .u8 t196, .int .u8 0]) ?_ 6 _ rfl; (with_reducible repeat (first | refine blk_drewN ?_ _ | refine blk_drew ?_ | refine blk_alloc ?_ _)); refine blk_put (cs := #[.int .i32 t191, .int .i32 t192, .int .i32 t193, .int .u8 t194, .int .u8 t195, .int .u8 0, .int .u8 0]) ?_ 5 _ rfl; (with_reducible repeat (first | refine blk_drewN ?_ _ | refine blk_drew ?_ | refine blk_alloc ?_ _)); refine blk_put (cs := #[.int .i32 t191, .int .i32 t192, .int .i32 t193, .int .u8 t194, .int .u8 0, .int .u8 0, .int .u8 0]) ?_ 4 _ rfl; (with_reducible repeat (first | refine blk_drewN ?_ _ | refine blk_drew ?_ | refine blk_alloc ?_ _)); refine blk_put (cs := #[.int .i32 t191, .int .i32 t192, .int .i32 t193, .int .u8 0, .int .u8 0, .int .u8 0, .int .u8 0]) ?_ 3 _ rfl; (with_reducible repeat (first | refine blk_drewN ?_ _ | refine blk_drew ?_ | refine blk_alloc ?_ _)); refine blk_put (cs := #[.int .i32 t191, .int .i32 t192, .int .i32 0, .int .u8 0, .int .u8 0, .int .u8 0, .int .u8 0]) ?_ 2 _ rfl; (with_reducible repeat (first | refine blk_drewN ?_ _ | refine blk_drew ?_ | refine blk_alloc ?_ _)); refine blk_put (cs := #[.int .i32 t191, .int .i32 0, .int .i32 0, .int .u8 0, .int .u8 0, .int .u8 0, .int .u8 0]) ?_ 1 _ rfl; (with_reducible repeat (first | refine blk_drewN ?_ _ | refine blk_drew ?_ | refine blk_alloc ?_ _)); refine blk_put (cs := #[.int .i32 0, .int .i32 0, .int .i32 0, .int .u8 0, .int .u8 0, .int .u8 0, .int .u8 0]) ?_ 0 _ rfl; (with_reducible repeat (first | refine blk_drewN ?_ _ | refine blk_drew ?_ | refine blk_alloc ?_ _)); exact BK199.out) hb); have n4_ := Aside0.mk (below_step (by repeat (first | (with_reducible first | exact HB.out | apply below_alloc | apply pw_below_drewN | apply below_drew1 | refine below_set ?_ GE177.out | refine below_set ?_ GE178.out | refine below_set ?_ GE190.out | refine below_set ?_ GE199.out) | exact HB.out)) hb); clear BK177; clear BK178; clear BK190; clear BK199; clear HB; have BK177 := n0_; have BK178 := n1_; have BK190 := n2_; have BK199 := n3_; have HB := n4_; clear n0_ n1_ n2_ n3_ n4_; (try clear hb); (try clear hb2); (try clear hk); (try clear hi)))
              go_meet
              case rel => exact ⟨_, (true), (by first | rfl | (simp; done) | (simp [*]; done)), H', ⟨by have := HJ3.out; first | omega | exact Nat.le_refl _⟩, ⟨by (with_reducible repeat (first | refine blk_drewN ?_ _ | refine blk_drew ?_ | refine blk_alloc ?_ _)); exact BK177.out⟩, ⟨by (with_reducible repeat (first | refine blk_drewN ?_ _ | refine blk_drew ?_ | refine blk_alloc ?_ _)); exact BK178.out⟩, ⟨by (with_reducible repeat (first | refine blk_drewN ?_ _ | refine blk_drew ?_ | refine blk_alloc ?_ _)); exact BK190.out⟩, ⟨by (with_reducible repeat (first | refine blk_drewN ?_ _ | refine blk_drew ?_ | refine blk_alloc ?_ _)); exact BK199.out⟩, ⟨by repeat (first | (with_reducible first | exact HB.out | apply below_alloc | apply pw_below_drewN | apply below_drew1 | refine below_set ?_ GE177.out | refine below_set ?_ GE178.out | refine below_set ?_ GE190.out | refine below_set ?_ GE199.out) | exact HB.out)⟩⟩
          · replace c38 := Bool.eq_false_iff.mpr c38
            subst c38
            have H1 : ((cell_Right.f t191 t192 t193 t194 t195 t196 t197).bind fun t226 => (if t226 = true then ((cell_Rest.f a0_0 a0_1 a0_2 a0_3 a0_4 a0_5 a0_6).bind fun bt227 => ((cell_Right.f bt227.1 bt227.2.1 bt227.2.2.1 bt227.2.2.2.1 bt227.2.2.2.2.1 bt227.2.2.2.2.2.1 bt227.2.2.2.2.2.2).bind fun t234 => (if t234 = true then ((cell_Blank.f a2_0 a2_1 a2_2).bind fun bt235 => ((cell_Right.f bt235.1 bt235.2.1 bt235.2.2.1 bt235.2.2.2.1 bt235.2.2.2.2.1 bt235.2.2.2.2.2.1 bt235.2.2.2.2.2.2).bind fun t242 => (if t242 = true then ((cell_With.f a0_0 a0_1 a0_2 a0_3 a0_4 a0_5 a0_6 a2_0 a2_1 a2_2).bind fun bt243 => ((cell_Right.f bt243.1 bt243.2.1 bt243.2.2.1 bt243.2.2.2.1 bt243.2.2.2.2.1 bt243.2.2.2.2.2.1 bt243.2.2.2.2.2.2).bind fun t250 => (prolepsislaw05_CellStays.j1 kj3 (!t250) a0_0 a0_1 a0_2 a0_3 a0_4 a0_5 a0_6))) else (prolepsislaw05_CellStays.j1 kj3 true a0_0 a0_1 a0_2 a0_3 a0_4 a0_5 a0_6)))) else (prolepsislaw05_CellStays.j1 kj3 true a0_0 a0_1 a0_2 a0_3 a0_4 a0_5 a0_6)))) else (prolepsislaw05_CellStays.j1 kj3 true a0_0 a0_1 a0_2 a0_3 a0_4 a0_5 a0_6))) = some r := by rw [if_neg (show ¬ (false = true) by decide)] at H; exact H
            clear H
            have H := H1
            clear H1
            replace H := Option.bind_eq_some_iff.mp H
            obtain ⟨t226, A1140, H⟩ := H
            replace H : (if t226 = true then ((cell_Rest.f a0_0 a0_1 a0_2 a0_3 a0_4 a0_5 a0_6).bind fun bt227 => ((cell_Right.f bt227.1 bt227.2.1 bt227.2.2.1 bt227.2.2.2.1 bt227.2.2.2.2.1 bt227.2.2.2.2.2.1 bt227.2.2.2.2.2.2).bind fun t234 => (if t234 = true then ((cell_Blank.f a2_0 a2_1 a2_2).bind fun bt235 => ((cell_Right.f bt235.1 bt235.2.1 bt235.2.2.1 bt235.2.2.2.1 bt235.2.2.2.2.1 bt235.2.2.2.2.2.1 bt235.2.2.2.2.2.2).bind fun t242 => (if t242 = true then ((cell_With.f a0_0 a0_1 a0_2 a0_3 a0_4 a0_5 a0_6 a2_0 a2_1 a2_2).bind fun bt243 => ((cell_Right.f bt243.1 bt243.2.1 bt243.2.2.1 bt243.2.2.2.1 bt243.2.2.2.2.1 bt243.2.2.2.2.2.1 bt243.2.2.2.2.2.2).bind fun t250 => (prolepsislaw05_CellStays.j1 kj3 (!t250) a0_0 a0_1 a0_2 a0_3 a0_4 a0_5 a0_6))) else (prolepsislaw05_CellStays.j1 kj3 true a0_0 a0_1 a0_2 a0_3 a0_4 a0_5 a0_6)))) else (prolepsislaw05_CellStays.j1 kj3 true a0_0 a0_1 a0_2 a0_3 a0_4 a0_5 a0_6)))) else (prolepsislaw05_CellStays.j1 kj3 true a0_0 a0_1 a0_2 a0_3 a0_4 a0_5 a0_6)) = some r := H
            have A114 := Aside0.mk A1140
            clear A1140
            by_cases c115 : t226 = true
            · subst c115
              have H1 : ((cell_Rest.f a0_0 a0_1 a0_2 a0_3 a0_4 a0_5 a0_6).bind fun bt227 => ((cell_Right.f bt227.1 bt227.2.1 bt227.2.2.1 bt227.2.2.2.1 bt227.2.2.2.2.1 bt227.2.2.2.2.2.1 bt227.2.2.2.2.2.2).bind fun t234 => (if t234 = true then ((cell_Blank.f a2_0 a2_1 a2_2).bind fun bt235 => ((cell_Right.f bt235.1 bt235.2.1 bt235.2.2.1 bt235.2.2.2.1 bt235.2.2.2.2.1 bt235.2.2.2.2.2.1 bt235.2.2.2.2.2.2).bind fun t242 => (if t242 = true then ((cell_With.f a0_0 a0_1 a0_2 a0_3 a0_4 a0_5 a0_6 a2_0 a2_1 a2_2).bind fun bt243 => ((cell_Right.f bt243.1 bt243.2.1 bt243.2.2.1 bt243.2.2.2.1 bt243.2.2.2.2.1 bt243.2.2.2.2.2.1 bt243.2.2.2.2.2.2).bind fun t250 => (prolepsislaw05_CellStays.j1 kj3 (!t250) a0_0 a0_1 a0_2 a0_3 a0_4 a0_5 a0_6))) else (prolepsislaw05_CellStays.j1 kj3 true a0_0 a0_1 a0_2 a0_3 a0_4 a0_5 a0_6)))) else (prolepsislaw05_CellStays.j1 kj3 true a0_0 a0_1 a0_2 a0_3 a0_4 a0_5 a0_6)))) = some r := by rw [if_pos rfl] at H; exact H
              clear H
              have H := H1
              clear H1
              replace H := Option.bind_eq_some_iff.mp H
              obtain ⟨⟨t227, t228, t229, t230, t231, t232, t233⟩, A1160, H⟩ := H
              replace H : ((cell_Right.f t227 t228 t229 t230 t231 t232 t233).bind fun t234 => (if t234 = true then ((cell_Blank.f a2_0 a2_1 a2_2).bind fun bt235 => ((cell_Right.f bt235.1 bt235.2.1 bt235.2.2.1 bt235.2.2.2.1 bt235.2.2.2.2.1 bt235.2.2.2.2.2.1 bt235.2.2.2.2.2.2).bind fun t242 => (if t242 = true then ((cell_With.f a0_0 a0_1 a0_2 a0_3 a0_4 a0_5 a0_6 a2_0 a2_1 a2_2).bind fun bt243 => ((cell_Right.f bt243.1 bt243.2.1 bt243.2.2.1 bt243.2.2.2.1 bt243.2.2.2.2.1 bt243.2.2.2.2.2.1 bt243.2.2.2.2.2.2).bind fun t250 => (prolepsislaw05_CellStays.j1 kj3 (!t250) a0_0 a0_1 a0_2 a0_3 a0_4 a0_5 a0_6))) else (prolepsislaw05_CellStays.j1 kj3 true a0_0 a0_1 a0_2 a0_3 a0_4 a0_5 a0_6)))) else (prolepsislaw05_CellStays.j1 kj3 true a0_0 a0_1 a0_2 a0_3 a0_4 a0_5 a0_6))) = some r := H
              have A116 := Aside0.mk A1160
              clear A1160
              replace H := Option.bind_eq_some_iff.mp H
              obtain ⟨t234, A1170, H⟩ := H
              replace H : (if t234 = true then ((cell_Blank.f a2_0 a2_1 a2_2).bind fun bt235 => ((cell_Right.f bt235.1 bt235.2.1 bt235.2.2.1 bt235.2.2.2.1 bt235.2.2.2.2.1 bt235.2.2.2.2.2.1 bt235.2.2.2.2.2.2).bind fun t242 => (if t242 = true then ((cell_With.f a0_0 a0_1 a0_2 a0_3 a0_4 a0_5 a0_6 a2_0 a2_1 a2_2).bind fun bt243 => ((cell_Right.f bt243.1 bt243.2.1 bt243.2.2.1 bt243.2.2.2.1 bt243.2.2.2.2.1 bt243.2.2.2.2.2.1 bt243.2.2.2.2.2.2).bind fun t250 => (prolepsislaw05_CellStays.j1 kj3 (!t250) a0_0 a0_1 a0_2 a0_3 a0_4 a0_5 a0_6))) else (prolepsislaw05_CellStays.j1 kj3 true a0_0 a0_1 a0_2 a0_3 a0_4 a0_5 a0_6)))) else (prolepsislaw05_CellStays.j1 kj3 true a0_0 a0_1 a0_2 a0_3 a0_4 a0_5 a0_6)) = some r := H
              have A117 := Aside0.mk A1170
              clear A1170
              by_cases c118 : t234 = true
              · subst c118
                have H1 : ((cell_Blank.f a2_0 a2_1 a2_2).bind fun bt235 => ((cell_Right.f bt235.1 bt235.2.1 bt235.2.2.1 bt235.2.2.2.1 bt235.2.2.2.2.1 bt235.2.2.2.2.2.1 bt235.2.2.2.2.2.2).bind fun t242 => (if t242 = true then ((cell_With.f a0_0 a0_1 a0_2 a0_3 a0_4 a0_5 a0_6 a2_0 a2_1 a2_2).bind fun bt243 => ((cell_Right.f bt243.1 bt243.2.1 bt243.2.2.1 bt243.2.2.2.1 bt243.2.2.2.2.1 bt243.2.2.2.2.2.1 bt243.2.2.2.2.2.2).bind fun t250 => (prolepsislaw05_CellStays.j1 kj3 (!t250) a0_0 a0_1 a0_2 a0_3 a0_4 a0_5 a0_6))) else (prolepsislaw05_CellStays.j1 kj3 true a0_0 a0_1 a0_2 a0_3 a0_4 a0_5 a0_6)))) = some r := by rw [if_pos rfl] at H; exact H
                clear H
                have H := H1
                clear H1
                replace H := Option.bind_eq_some_iff.mp H
                obtain ⟨⟨t235, t236, t237, t238, t239, t240, t241⟩, A1190, H⟩ := H
                replace H : ((cell_Right.f t235 t236 t237 t238 t239 t240 t241).bind fun t242 => (if t242 = true then ((cell_With.f a0_0 a0_1 a0_2 a0_3 a0_4 a0_5 a0_6 a2_0 a2_1 a2_2).bind fun bt243 => ((cell_Right.f bt243.1 bt243.2.1 bt243.2.2.1 bt243.2.2.2.1 bt243.2.2.2.2.1 bt243.2.2.2.2.2.1 bt243.2.2.2.2.2.2).bind fun t250 => (prolepsislaw05_CellStays.j1 kj3 (!t250) a0_0 a0_1 a0_2 a0_3 a0_4 a0_5 a0_6))) else (prolepsislaw05_CellStays.j1 kj3 true a0_0 a0_1 a0_2 a0_3 a0_4 a0_5 a0_6))) = some r := H
                have A119 := Aside0.mk A1190
                clear A1190
                replace H := Option.bind_eq_some_iff.mp H
                obtain ⟨t242, A1200, H⟩ := H
                replace H : (if t242 = true then ((cell_With.f a0_0 a0_1 a0_2 a0_3 a0_4 a0_5 a0_6 a2_0 a2_1 a2_2).bind fun bt243 => ((cell_Right.f bt243.1 bt243.2.1 bt243.2.2.1 bt243.2.2.2.1 bt243.2.2.2.2.1 bt243.2.2.2.2.2.1 bt243.2.2.2.2.2.2).bind fun t250 => (prolepsislaw05_CellStays.j1 kj3 (!t250) a0_0 a0_1 a0_2 a0_3 a0_4 a0_5 a0_6))) else (prolepsislaw05_CellStays.j1 kj3 true a0_0 a0_1 a0_2 a0_3 a0_4 a0_5 a0_6)) = some r := H
                have A120 := Aside0.mk A1200
                clear A1200
                by_cases c121 : t242 = true
                · subst c121
                  have H1 : ((cell_With.f a0_0 a0_1 a0_2 a0_3 a0_4 a0_5 a0_6 a2_0 a2_1 a2_2).bind fun bt243 => ((cell_Right.f bt243.1 bt243.2.1 bt243.2.2.1 bt243.2.2.2.1 bt243.2.2.2.2.1 bt243.2.2.2.2.2.1 bt243.2.2.2.2.2.2).bind fun t250 => (prolepsislaw05_CellStays.j1 kj3 (!t250) a0_0 a0_1 a0_2 a0_3 a0_4 a0_5 a0_6))) = some r := by rw [if_pos rfl] at H; exact H
                  clear H
                  have H := H1
                  clear H1
                  replace H := Option.bind_eq_some_iff.mp H
                  obtain ⟨⟨t243, t244, t245, t246, t247, t248, t249⟩, A1220, H⟩ := H
                  replace H : ((cell_Right.f t243 t244 t245 t246 t247 t248 t249).bind fun t250 => (prolepsislaw05_CellStays.j1 kj3 (!t250) a0_0 a0_1 a0_2 a0_3 a0_4 a0_5 a0_6)) = some r := H
                  have A122 := Aside0.mk A1220
                  clear A1220
                  replace H := Option.bind_eq_some_iff.mp H
                  obtain ⟨t250, A1230, H⟩ := H
                  replace H : (prolepsislaw05_CellStays.j1 kj3 (!t250) a0_0 a0_1 a0_2 a0_3 a0_4 a0_5 a0_6) = some r := H
                  have A123 := Aside0.mk A1230
                  clear A1230
                  have H' := Aside0.mk H
                  clear H
                  have hnb124 := NB199_177.out
                  have hnc124 := NB177_199.out
                  have hnb125 := NB199_178.out
                  have hnc125 := NB178_199.out
                  have hnb126 := NB199_190.out
                  have hnc126 := NB190_199.out
                  have hcz127_0 : w33.cell? ⟨gb199, 0, none⟩ = some (.int .i32 0) := (blk_cell BK199.out 0).trans rfl
                  have hcz127_1 : w33.cell? ⟨gb199, 1, none⟩ = some (.int .i32 0) := (blk_cell BK199.out 1).trans rfl
                  have hcz127_2 : w33.cell? ⟨gb199, 2, none⟩ = some (.int .i32 0) := (blk_cell BK199.out 2).trans rfl
                  have hcz127_3 : w33.cell? ⟨gb199, 3, none⟩ = some (.int .u8 0) := (blk_cell BK199.out 3).trans rfl
                  have hcz127_4 : w33.cell? ⟨gb199, 4, none⟩ = some (.int .u8 0) := (blk_cell BK199.out 4).trans rfl
                  have hcz127_5 : w33.cell? ⟨gb199, 5, none⟩ = some (.int .u8 0) := (blk_cell BK199.out 5).trans rfl
                  have hcz127_6 : w33.cell? ⟨gb199, 6, none⟩ = some (.int .u8 0) := (blk_cell BK199.out 6).trans rfl
                  have hfz127_0 := blk_frozen BK199.out 0
                  have hfz127_1 := blk_frozen BK199.out 1
                  have hfz127_2 := blk_frozen BK199.out 2
                  have hfz127_3 := blk_frozen BK199.out 3
                  have hfz127_4 := blk_frozen BK199.out 4
                  have hfz127_5 := blk_frozen BK199.out 5
                  have hfz127_6 := blk_frozen BK199.out 6
                  go_wp2_with (first | (go_at_call 26; (with_reducible refine (cell_Right.calls t191 t192 t193 t194 t195 t196 t197 true _ A114.out).mono ?_); rintro e w128 ⟨rfl, hb⟩; have n0_ := Aside0.mk (blk_below (g := gb177) (o := .cells #[.int .i32 a0_0, .int .i32 a0_1, .int .i32 a0_2, .int .u8 a0_3, .int .u8 a0_4, .int .u8 a0_5, .int .u8 a0_6] 26 (0, 0)) (by (with_reducible repeat (first | refine blk_drewN ?_ _ | refine blk_drew ?_ | refine blk_alloc ?_ _)); refine blk_far ?_ NB177_199.out _; (with_reducible repeat (first | refine blk_drewN ?_ _ | refine blk_drew ?_ | refine blk_alloc ?_ _)); refine blk_far ?_ NB177_199.out _; (with_reducible repeat (first | refine blk_drewN ?_ _ | refine blk_drew ?_ | refine blk_alloc ?_ _)); refine blk_far ?_ NB177_199.out _; (with_reducible repeat (first | refine blk_drewN ?_ _ | refine blk_drew ?_ | refine blk_alloc ?_ _)); refine blk_far ?_ NB177_199.out _; (with_reducible repeat (first | refine blk_drewN ?_ _ | refine blk_drew ?_ | refine blk_alloc ?_ _)); refine blk_far ?_ NB177_199.out _; (with_reducible repeat (first | refine blk_drewN ?_ _ | refine blk_drew ?_ | refine blk_alloc ?_ _)); refine blk_far ?_ NB177_199.out _; (with_reducible repeat (first | refine blk_drewN ?_ _ | refine blk_drew ?_ | refine blk_alloc ?_ _)); refine blk_far ?_ NB177_199.out _; (with_reducible repeat (first | refine blk_drewN ?_ _ | refine blk_drew ?_ | refine blk_alloc ?_ _)); exact BK177.out) hb); have n1_ := Aside0.mk (blk_below (g := gb178) (o := .cells #[.int .u8 a2_0, .int .u8 a2_1, .int .u8 a2_2] 24 (0, 0)) (by (with_reducible repeat (first | refine blk_drewN ?_ _ | refine blk_drew ?_ | refine blk_alloc ?_ _)); refine blk_far ?_ NB178_199.out _; (with_reducible repeat (first | refine blk_drewN ?_ _ | refine blk_drew ?_ | refine blk_alloc ?_ _)); refine blk_far ?_ NB178_199.out _; (with_reducible repeat (first | refine blk_drewN ?_ _ | refine blk_drew ?_ | refine blk_alloc ?_ _)); refine blk_far ?_ NB178_199.out _; (with_reducible repeat (first | refine blk_drewN ?_ _ | refine blk_drew ?_ | refine blk_alloc ?_ _)); refine blk_far ?_ NB178_199.out _; (with_reducible repeat (first | refine blk_drewN ?_ _ | refine blk_drew ?_ | refine blk_alloc ?_ _)); refine blk_far ?_ NB178_199.out _; (with_reducible repeat (first | refine blk_drewN ?_ _ | refine blk_drew ?_ | refine blk_alloc ?_ _)); refine blk_far ?_ NB178_199.out _; (with_reducible repeat (first | refine blk_drewN ?_ _ | refine blk_drew ?_ | refine blk_alloc ?_ _)); refine blk_far ?_ NB178_199.out _; (with_reducible repeat (first | refine blk_drewN ?_ _ | refine blk_drew ?_ | refine blk_alloc ?_ _)); exact BK178.out) hb); have n2_ := Aside0.mk (blk_below (g := gb190) (o := .cells #[.int .i32 t182, .int .i32 t183, .int .i32 t184, .int .u8 t185, .int .u8 t186, .int .u8 t187, .int .u8 t188] 26 (0, 0)) (by (with_reducible repeat (first | refine blk_drewN ?_ _ | refine blk_drew ?_ | refine blk_alloc ?_ _)); refine blk_far ?_ NB190_199.out _; (with_reducible repeat (first | refine blk_drewN ?_ _ | refine blk_drew ?_ | refine blk_alloc ?_ _)); refine blk_far ?_ NB190_199.out _; (with_reducible repeat (first | refine blk_drewN ?_ _ | refine blk_drew ?_ | refine blk_alloc ?_ _)); refine blk_far ?_ NB190_199.out _; (with_reducible repeat (first | refine blk_drewN ?_ _ | refine blk_drew ?_ | refine blk_alloc ?_ _)); refine blk_far ?_ NB190_199.out _; (with_reducible repeat (first | refine blk_drewN ?_ _ | refine blk_drew ?_ | refine blk_alloc ?_ _)); refine blk_far ?_ NB190_199.out _; (with_reducible repeat (first | refine blk_drewN ?_ _ | refine blk_drew ?_ | refine blk_alloc ?_ _)); refine blk_far ?_ NB190_199.out _; (with_reducible repeat (first | refine blk_drewN ?_ _ | refine blk_drew ?_ | refine blk_alloc ?_ _)); refine blk_far ?_ NB190_199.out _; (with_reducible repeat (first | refine blk_drewN ?_ _ | refine blk_drew ?_ | refine blk_alloc ?_ _)); exact BK190.out) hb); have n3_ := Aside0.mk (blk_below (g := gb199) (o := .cells #[.int .i32 t191, .int .i32 t192, .int .i32 t193, .int .u8 t194, .int .u8 t195, .int .u8 t196, .int .u8 t197] 26 (0, 0)) (by (with_reducible repeat (first | refine blk_drewN ?_ _ | refine blk_drew ?_ | refine blk_alloc ?_ _)); refine blk_put (cs := #[.int .i32 t191, .int .i32 t192, .int .i32 t193, .int .u8 t194, .int .u8 t195, .int .u8 t196, .int .u8 0]) ?_ 6 _ rfl; (with_reducible repeat (first | refine blk_drewN ?_ _ | refine blk_drew ?_ | refine blk_alloc ?_ _)); refine blk_put (cs := #[.int .i32 t191, .int .i32 t192, .int .i32 t193, .int .u8 t194, .int .u8 t195, .int .u8 0, .int .u8 0]) ?_ 5 _ rfl; (with_reducible repeat (first | refine blk_drewN ?_ _ | refine blk_drew ?_ | refine blk_alloc ?_ _)); refine blk_put (cs := #[.int .i32 t191, .int .i32 t192, .int .i32 t193, .int .u8 t194, .int .u8 0, .int .u8 0, .int .u8 0]) ?_ 4 _ rfl; (with_reducible repeat (first | refine blk_drewN ?_ _ | refine blk_drew ?_ | refine blk_alloc ?_ _)); refine blk_put (cs := #[.int .i32 t191, .int .i32 t192, .int .i32 t193, .int .u8 0, .int .u8 0, .int .u8 0, .int .u8 0]) ?_ 3 _ rfl; (with_reducible repeat (first | refine blk_drewN ?_ _ | refine blk_drew ?_ | refine blk_alloc ?_ _)); refine blk_put (cs := #[.int .i32 t191, .int .i32 t192, .int .i32 0, .int .u8 0, .int .u8 0, .int .u8 0, .int .u8 0]) ?_ 2 _ rfl; (with_reducible repeat (first | refine blk_drewN ?_ _ | refine blk_drew ?_ | refine blk_alloc ?_ _)); refine blk_put (cs := #[.int .i32 t191, .int .i32 0, .int .i32 0, .int .u8 0, .int .u8 0, .int .u8 0, .int .u8 0]) ?_ 1 _ rfl; (with_reducible repeat (first | refine blk_drewN ?_ _ | refine blk_drew ?_ | refine blk_alloc ?_ _)); refine blk_put (cs := #[.int .i32 0, .int .i32 0, .int .i32 0, .int .u8 0, .int .u8 0, .int .u8 0, .int .u8 0]) ?_ 0 _ rfl; (with_reducible repeat (first | refine blk_drewN ?_ _ | refine blk_drew ?_ | refine blk_alloc ?_ _)); exact BK199.out) hb); have n4_ := Aside0.mk (below_step (by repeat (first | (with_reducible first | exact HB.out | apply below_alloc | apply pw_below_drewN | apply below_drew1 | refine below_set ?_ GE177.out | refine below_set ?_ GE178.out | refine below_set ?_ GE190.out | refine below_set ?_ GE199.out) | exact HB.out)) hb); clear BK177; clear BK178; clear BK190; clear BK199; clear HB; have BK177 := n0_; have BK178 := n1_; have BK190 := n2_; have BK199 := n3_; have HB := n4_; clear n0_ n1_ n2_ n3_ n4_; (try clear hb); (try clear hb2); (try clear hk); (try clear hi); have hnb129 := NB177_178.out; have hnc129 := NB178_177.out; have hnb130 := NB177_190.out; have hnc130 := NB190_177.out; have hcz131_0 : w128.cell? ⟨gb177, 0, none⟩ = some (.int .i32 a0_0) := (blk_cell BK177.out 0).trans rfl; have hcz131_1 : w128.cell? ⟨gb177, 1, none⟩ = some (.int .i32 a0_1) := (blk_cell BK177.out 1).trans rfl; have hcz131_2 : w128.cell? ⟨gb177, 2, none⟩ = some (.int .i32 a0_2) := (blk_cell BK177.out 2).trans rfl; have hcz131_3 : w128.cell? ⟨gb177, 3, none⟩ = some (.int .u8 a0_3) := (blk_cell BK177.out 3).trans rfl; have hcz131_4 : w128.cell? ⟨gb177, 4, none⟩ = some (.int .u8 a0_4) := (blk_cell BK177.out 4).trans rfl; have hcz131_5 : w128.cell? ⟨gb177, 5, none⟩ = some (.int .u8 a0_5) := (blk_cell BK177.out 5).trans rfl; have hcz131_6 : w128.cell? ⟨gb177, 6, none⟩ = some (.int .u8 a0_6) := (blk_cell BK177.out 6).trans rfl; have hfz131_0 := blk_frozen BK177.out 0; have hfz131_1 := blk_frozen BK177.out 1; have hfz131_2 := blk_frozen BK177.out 2; have hfz131_3 := blk_frozen BK177.out 3; have hfz131_4 := blk_frozen BK177.out 4; have hfz131_5 := blk_frozen BK177.out 5; have hfz131_6 := blk_frozen BK177.out 6) | (go_at_call 23; (with_reducible refine (cell_Rest.calls a0_0 a0_1 a0_2 a0_3 a0_4 a0_5 a0_6 t227 t228 t229 t230 t231 t232 t233 _ A116.out).mono ?_); rintro e w132 ⟨rfl, hb⟩; have n0_ := Aside0.mk (blk_below (g := gb177) (o := .cells #[.int .i32 a0_0, .int .i32 a0_1, .int .i32 a0_2, .int .u8 a0_3, .int .u8 a0_4, .int .u8 a0_5, .int .u8 a0_6] 26 (0, 0)) (by (with_reducible repeat (first | refine blk_drewN ?_ _ | refine blk_drew ?_ | refine blk_alloc ?_ _)); exact BK177.out) hb); have n1_ := Aside0.mk (blk_below (g := gb178) (o := .cells #[.int .u8 a2_0, .int .u8 a2_1, .int .u8 a2_2] 24 (0, 0)) (by (with_reducible repeat (first | refine blk_drewN ?_ _ | refine blk_drew ?_ | refine blk_alloc ?_ _)); exact BK178.out) hb); have n2_ := Aside0.mk (blk_below (g := gb190) (o := .cells #[.int .i32 t182, .int .i32 t183, .int .i32 t184, .int .u8 t185, .int .u8 t186, .int .u8 t187, .int .u8 t188] 26 (0, 0)) (by (with_reducible repeat (first | refine blk_drewN ?_ _ | refine blk_drew ?_ | refine blk_alloc ?_ _)); exact BK190.out) hb); have n3_ := Aside0.mk (blk_below (g := gb199) (o := .cells #[.int .i32 t191, .int .i32 t192, .int .i32 t193, .int .u8 t194, .int .u8 t195, .int .u8 t196, .int .u8 t197] 26 (0, 0)) (by (with_reducible repeat (first | refine blk_drewN ?_ _ | refine blk_drew ?_ | refine blk_alloc ?_ _)); exact BK199.out) hb); have n4_ := Aside0.mk (below_step (by repeat (first | (with_reducible first | exact HB.out | apply below_alloc | apply pw_below_drewN | apply below_drew1 | refine below_set ?_ GE177.out | refine below_set ?_ GE178.out | refine below_set ?_ GE190.out | refine below_set ?_ GE199.out) | exact HB.out)) hb); clear BK177; clear BK178; clear BK190; clear BK199; clear HB; have BK177 := n0_; have BK178 := n1_; have BK190 := n2_; have BK199 := n3_; have HB := n4_; clear n0_ n1_ n2_ n3_ n4_; (try clear hb); (try clear hb2); (try clear hk); (try clear hi)) | (go_at_call 26; (with_reducible refine (cell_Right.calls t227 t228 t229 t230 t231 t232 t233 true _ A117.out).mono ?_); rintro e w133 ⟨rfl, hb⟩; have n0_ := Aside0.mk (blk_below (g := gb177) (o := .cells #[.int .i32 a0_0, .int .i32 a0_1, .int .i32 a0_2, .int .u8 a0_3, .int .u8 a0_4, .int .u8 a0_5, .int .u8 a0_6] 26 (0, 0)) (by (with_reducible repeat (first | refine blk_drewN ?_ _ | refine blk_drew ?_ | refine blk_alloc ?_ _)); exact BK177.out) hb); have n1_ := Aside0.mk (blk_below (g := gb178) (o := .cells #[.int .u8 a2_0, .int .u8 a2_1, .int .u8 a2_2] 24 (0, 0)) (by (with_reducible repeat (first | refine blk_drewN ?_ _ | refine blk_drew ?_ | refine blk_alloc ?_ _)); exact BK178.out) hb); have n2_ := Aside0.mk (blk_below (g := gb190) (o := .cells #[.int .i32 t182, .int .i32 t183, .int .i32 t184, .int .u8 t185, .int .u8 t186, .int .u8 t187, .int .u8 t188] 26 (0, 0)) (by (with_reducible repeat (first | refine blk_drewN ?_ _ | refine blk_drew ?_ | refine blk_alloc ?_ _)); exact BK190.out) hb); have n3_ := Aside0.mk (blk_below (g := gb199) (o := .cells #[.int .i32 t191, .int .i32 t192, .int .i32 t193, .int .u8 t194, .int .u8 t195, .int .u8 t196, .int .u8 t197] 26 (0, 0)) (by (with_reducible repeat (first | refine blk_drewN ?_ _ | refine blk_drew ?_ | refine blk_alloc ?_ _)); exact BK199.out) hb); have n4_ := Aside0.mk (below_step (by repeat (first | (with_reducible first | exact HB.out | apply below_alloc | apply pw_below_drewN | apply below_drew1 | refine below_set ?_ GE177.out | refine below_set ?_ GE178.out | refine below_set ?_ GE190.out | refine below_set ?_ GE199.out) | exact HB.out)) hb); clear BK177; clear BK178; clear BK190; clear BK199; clear HB; have BK177 := n0_; have BK178 := n1_; have BK190 := n2_; have BK199 := n3_; have HB := n4_; clear n0_ n1_ n2_ n3_ n4_; (try clear hb); (try clear hb2); (try clear hk); (try clear hi); have hnb134 := NB178_190.out; have hnc134 := NB190_178.out; have hcz135_0 : w133.cell? ⟨gb178, 0, none⟩ = some (.int .u8 a2_0) := (blk_cell BK178.out 0).trans rfl; have hcz135_1 : w133.cell? ⟨gb178, 1, none⟩ = some (.int .u8 a2_1) := (blk_cell BK178.out 1).trans rfl; have hcz135_2 : w133.cell? ⟨gb178, 2, none⟩ = some (.int .u8 a2_2) := (blk_cell BK178.out 2).trans rfl; have hfz135_0 := blk_frozen BK178.out 0; have hfz135_1 := blk_frozen BK178.out 1; have hfz135_2 := blk_frozen BK178.out 2) | (go_at_call 21; (with_reducible refine (cell_Blank.calls a2_0 a2_1 a2_2 t235 t236 t237 t238 t239 t240 t241 _ A119.out).mono ?_); rintro e w136 ⟨rfl, hb⟩; have n0_ := Aside0.mk (blk_below (g := gb177) (o := .cells #[.int .i32 a0_0, .int .i32 a0_1, .int .i32 a0_2, .int .u8 a0_3, .int .u8 a0_4, .int .u8 a0_5, .int .u8 a0_6] 26 (0, 0)) (by (with_reducible repeat (first | refine blk_drewN ?_ _ | refine blk_drew ?_ | refine blk_alloc ?_ _)); exact BK177.out) hb); have n1_ := Aside0.mk (blk_below (g := gb178) (o := .cells #[.int .u8 a2_0, .int .u8 a2_1, .int .u8 a2_2] 24 (0, 0)) (by (with_reducible repeat (first | refine blk_drewN ?_ _ | refine blk_drew ?_ | refine blk_alloc ?_ _)); exact BK178.out) hb); have n2_ := Aside0.mk (blk_below (g := gb190) (o := .cells #[.int .i32 t182, .int .i32 t183, .int .i32 t184, .int .u8 t185, .int .u8 t186, .int .u8 t187, .int .u8 t188] 26 (0, 0)) (by (with_reducible repeat (first | refine blk_drewN ?_ _ | refine blk_drew ?_ | refine blk_alloc ?_ _)); exact BK190.out) hb); have n3_ := Aside0.mk (blk_below (g := gb199) (o := .cells #[.int .i32 t191, .int .i32 t192, .int .i32 t193, .int .u8 t194, .int .u8 t195, .int .u8 t196, .int .u8 t197] 26 (0, 0)) (by (with_reducible repeat (first | refine blk_drewN ?_ _ | refine blk_drew ?_ | refine blk_alloc ?_ _)); exact BK199.out) hb); have n4_ := Aside0.mk (below_step (by repeat (first | (with_reducible first | exact HB.out | apply below_alloc | apply pw_below_drewN | apply below_drew1 | refine below_set ?_ GE177.out | refine below_set ?_ GE178.out | refine below_set ?_ GE190.out | refine below_set ?_ GE199.out) | exact HB.out)) hb); clear BK177; clear BK178; clear BK190; clear BK199; clear HB; have BK177 := n0_; have BK178 := n1_; have BK190 := n2_; have BK199 := n3_; have HB := n4_; clear n0_ n1_ n2_ n3_ n4_; (try clear hb); (try clear hb2); (try clear hk); (try clear hi)) | (go_at_call 26; (with_reducible refine (cell_Right.calls t235 t236 t237 t238 t239 t240 t241 true _ A120.out).mono ?_); rintro e w137 ⟨rfl, hb⟩; have n0_ := Aside0.mk (blk_below (g := gb177) (o := .cells #[.int .i32 a0_0, .int .i32 a0_1, .int .i32 a0_2, .int .u8 a0_3, .int .u8 a0_4, .int .u8 a0_5, .int .u8 a0_6] 26 (0, 0)) (by (with_reducible repeat (first | refine blk_drewN ?_ _ | refine blk_drew ?_ | refine blk_alloc ?_ _)); exact BK177.out) hb); have n1_ := Aside0.mk (blk_below (g := gb178) (o := .cells #[.int .u8 a2_0, .int .u8 a2_1, .int .u8 a2_2] 24 (0, 0)) (by (with_reducible repeat (first | refine blk_drewN ?_ _ | refine blk_drew ?_ | refine blk_alloc ?_ _)); exact BK178.out) hb); have n2_ := Aside0.mk (blk_below (g := gb190) (o := .cells #[.int .i32 t182, .int .i32 t183, .int .i32 t184, .int .u8 t185, .int .u8 t186, .int .u8 t187, .int .u8 t188] 26 (0, 0)) (by (with_reducible repeat (first | refine blk_drewN ?_ _ | refine blk_drew ?_ | refine blk_alloc ?_ _)); exact BK190.out) hb); have n3_ := Aside0.mk (blk_below (g := gb199) (o := .cells #[.int .i32 t191, .int .i32 t192, .int .i32 t193, .int .u8 t194, .int .u8 t195, .int .u8 t196, .int .u8 t197] 26 (0, 0)) (by (with_reducible repeat (first | refine blk_drewN ?_ _ | refine blk_drew ?_ | refine blk_alloc ?_ _)); exact BK199.out) hb); have n4_ := Aside0.mk (below_step (by repeat (first | (with_reducible first | exact HB.out | apply below_alloc | apply pw_below_drewN | apply below_drew1 | refine below_set ?_ GE177.out | refine below_set ?_ GE178.out | refine below_set ?_ GE190.out | refine below_set ?_ GE199.out) | exact HB.out)) hb); clear BK177; clear BK178; clear BK190; clear BK199; clear HB; have BK177 := n0_; have BK178 := n1_; have BK190 := n2_; have BK199 := n3_; have HB := n4_; clear n0_ n1_ n2_ n3_ n4_; (try clear hb); (try clear hb2); (try clear hk); (try clear hi); have hcz138_0 : w137.cell? ⟨gb177, 0, none⟩ = some (.int .i32 a0_0) := (blk_cell BK177.out 0).trans rfl; have hcz138_1 : w137.cell? ⟨gb177, 1, none⟩ = some (.int .i32 a0_1) := (blk_cell BK177.out 1).trans rfl; have hcz138_2 : w137.cell? ⟨gb177, 2, none⟩ = some (.int .i32 a0_2) := (blk_cell BK177.out 2).trans rfl; have hcz138_3 : w137.cell? ⟨gb177, 3, none⟩ = some (.int .u8 a0_3) := (blk_cell BK177.out 3).trans rfl; have hcz138_4 : w137.cell? ⟨gb177, 4, none⟩ = some (.int .u8 a0_4) := (blk_cell BK177.out 4).trans rfl; have hcz138_5 : w137.cell? ⟨gb177, 5, none⟩ = some (.int .u8 a0_5) := (blk_cell BK177.out 5).trans rfl; have hcz138_6 : w137.cell? ⟨gb177, 6, none⟩ = some (.int .u8 a0_6) := (blk_cell BK177.out 6).trans rfl; have hfz138_0 := blk_frozen BK177.out 0; have hfz138_1 := blk_frozen BK177.out 1; have hfz138_2 := blk_frozen BK177.out 2; have hfz138_3 := blk_frozen BK177.out 3; have hfz138_4 := blk_frozen BK177.out 4; have hfz138_5 := blk_frozen BK177.out 5; have hfz138_6 := blk_frozen BK177.out 6; have hcz139_0 : w137.cell? ⟨gb178, 0, none⟩ = some (.int .u8 a2_0) := (blk_cell BK178.out 0).trans rfl; have hcz139_1 : w137.cell? ⟨gb178, 1, none⟩ = some (.int .u8 a2_1) := (blk_cell BK178.out 1).trans rfl; have hcz139_2 : w137.cell? ⟨gb178, 2, none⟩ = some (.int .u8 a2_2) := (blk_cell BK178.out 2).trans rfl; have hfz139_0 := blk_frozen BK178.out 0; have hfz139_1 := blk_frozen BK178.out 1; have hfz139_2 := blk_frozen BK178.out 2) | (go_at_call 19; (with_reducible refine (cell_With.calls a0_0 a0_1 a0_2 a0_3 a0_4 a0_5 a0_6 a2_0 a2_1 a2_2 t243 t244 t245 t246 t247 t248 t249 _ A122.out).mono ?_); rintro e w140 ⟨rfl, hb⟩; have n0_ := Aside0.mk (blk_below (g := gb177) (o := .cells #[.int .i32 a0_0, .int .i32 a0_1, .int .i32 a0_2, .int .u8 a0_3, .int .u8 a0_4, .int .u8 a0_5, .int .u8 a0_6] 26 (0, 0)) (by (with_reducible repeat (first | refine blk_drewN ?_ _ | refine blk_drew ?_ | refine blk_alloc ?_ _)); exact BK177.out) hb); have n1_ := Aside0.mk (blk_below (g := gb178) (o := .cells #[.int .u8 a2_0, .int .u8 a2_1, .int .u8 a2_2] 24 (0, 0)) (by (with_reducible repeat (first | refine blk_drewN ?_ _ | refine blk_drew ?_ | refine blk_alloc ?_ _)); exact BK178.out) hb); have n2_ := Aside0.mk (blk_below (g := gb190) (o := .cells #[.int .i32 t182, .int .i32 t183, .int .i32 t184, .int .u8 t185, .int .u8 t186, .int .u8 t187, .int .u8 t188] 26 (0, 0)) (by (with_reducible repeat (first | refine blk_drewN ?_ _ | refine blk_drew ?_ | refine blk_alloc ?_ _)); exact BK190.out) hb); have n3_ := Aside0.mk (blk_below (g := gb199) (o := .cells #[.int .i32 t191, .int .i32 t192, .int .i32 t193, .int .u8 t194, .int .u8 t195, .int .u8 t196, .int .u8 t197] 26 (0, 0)) (by (with_reducible repeat (first | refine blk_drewN ?_ _ | refine blk_drew ?_ | refine blk_alloc ?_ _)); exact BK199.out) hb); have n4_ := Aside0.mk (below_step (by repeat (first | (with_reducible first | exact HB.out | apply below_alloc | apply pw_below_drewN | apply below_drew1 | refine below_set ?_ GE177.out | refine below_set ?_ GE178.out | refine below_set ?_ GE190.out | refine below_set ?_ GE199.out) | exact HB.out)) hb); clear BK177; clear BK178; clear BK190; clear BK199; clear HB; have BK177 := n0_; have BK178 := n1_; have BK190 := n2_; have BK199 := n3_; have HB := n4_; clear n0_ n1_ n2_ n3_ n4_; (try clear hb); (try clear hb2); (try clear hk); (try clear hi)) | (go_at_call 26; (with_reducible refine (cell_Right.calls t243 t244 t245 t246 t247 t248 t249 t250 _ A123.out).mono ?_); rintro e w141 ⟨rfl, hb⟩; have n0_ := Aside0.mk (blk_below (g := gb177) (o := .cells #[.int .i32 a0_0, .int .i32 a0_1, .int .i32 a0_2, .int .u8 a0_3, .int .u8 a0_4, .int .u8 a0_5, .int .u8 a0_6] 26 (0, 0)) (by (with_reducible repeat (first | refine blk_drewN ?_ _ | refine blk_drew ?_ | refine blk_alloc ?_ _)); exact BK177.out) hb); have n1_ := Aside0.mk (blk_below (g := gb178) (o := .cells #[.int .u8 a2_0, .int .u8 a2_1, .int .u8 a2_2] 24 (0, 0)) (by (with_reducible repeat (first | refine blk_drewN ?_ _ | refine blk_drew ?_ | refine blk_alloc ?_ _)); exact BK178.out) hb); have n2_ := Aside0.mk (blk_below (g := gb190) (o := .cells #[.int .i32 t182, .int .i32 t183, .int .i32 t184, .int .u8 t185, .int .u8 t186, .int .u8 t187, .int .u8 t188] 26 (0, 0)) (by (with_reducible repeat (first | refine blk_drewN ?_ _ | refine blk_drew ?_ | refine blk_alloc ?_ _)); exact BK190.out) hb); have n3_ := Aside0.mk (blk_below (g := gb199) (o := .cells #[.int .i32 t191, .int .i32 t192, .int .i32 t193, .int .u8 t194, .int .u8 t195, .int .u8 t196, .int .u8 t197] 26 (0, 0)) (by (with_reducible repeat (first | refine blk_drewN ?_ _ | refine blk_drew ?_ | refine blk_alloc ?_ _)); exact BK199.out) hb); have n4_ := Aside0.mk (below_step (by repeat (first | (with_reducible first | exact HB.out | apply below_alloc | apply pw_below_drewN | apply below_drew1 | refine below_set ?_ GE177.out | refine below_set ?_ GE178.out | refine below_set ?_ GE190.out | refine below_set ?_ GE199.out) | exact HB.out)) hb); clear BK177; clear BK178; clear BK190; clear BK199; clear HB; have BK177 := n0_; have BK178 := n1_; have BK190 := n2_; have BK199 := n3_; have HB := n4_; clear n0_ n1_ n2_ n3_ n4_; (try clear hb); (try clear hb2); (try clear hk); (try clear hi)))
                  go_meet
                  case rel => exact ⟨_, (!t250), (by first | rfl | (simp; done) | (simp [*]; done)), H', ⟨by have := HJ3.out; first | omega | exact Nat.le_refl _⟩, ⟨by (with_reducible repeat (first | refine blk_drewN ?_ _ | refine blk_drew ?_ | refine blk_alloc ?_ _)); exact BK177.out⟩, ⟨by (with_reducible repeat (first | refine blk_drewN ?_ _ | refine blk_drew ?_ | refine blk_alloc ?_ _)); exact BK178.out⟩, ⟨by (with_reducible repeat (first | refine blk_drewN ?_ _ | refine blk_drew ?_ | refine blk_alloc ?_ _)); exact BK190.out⟩, ⟨by (with_reducible repeat (first | refine blk_drewN ?_ _ | refine blk_drew ?_ | refine blk_alloc ?_ _)); exact BK199.out⟩, ⟨by repeat (first | (with_reducible first | exact HB.out | apply below_alloc | apply pw_below_drewN | apply below_drew1 | refine below_set ?_ GE177.out | refine below_set ?_ GE178.out | refine below_set ?_ GE190.out | refine below_set ?_ GE199.out) | exact HB.out)⟩⟩
                · replace c121 := Bool.eq_false_iff.mpr c121
                  subst c121
                  have H1 : (prolepsislaw05_CellStays.j1 kj3 true a0_0 a0_1 a0_2 a0_3 a0_4 a0_5 a0_6) = some r := by rw [if_neg (show ¬ (false = true) by decide)] at H; exact H
                  clear H
                  have H := H1
                  clear H1
                  have H' := Aside0.mk H
                  clear H
                  have hnb142 := NB199_177.out
                  have hnc142 := NB177_199.out
                  have hnb143 := NB199_178.out
                  have hnc143 := NB178_199.out
                  have hnb144 := NB199_190.out
                  have hnc144 := NB190_199.out
                  have hcz145_0 : w33.cell? ⟨gb199, 0, none⟩ = some (.int .i32 0) := (blk_cell BK199.out 0).trans rfl
                  have hcz145_1 : w33.cell? ⟨gb199, 1, none⟩ = some (.int .i32 0) := (blk_cell BK199.out 1).trans rfl
                  have hcz145_2 : w33.cell? ⟨gb199, 2, none⟩ = some (.int .i32 0) := (blk_cell BK199.out 2).trans rfl
                  have hcz145_3 : w33.cell? ⟨gb199, 3, none⟩ = some (.int .u8 0) := (blk_cell BK199.out 3).trans rfl
                  have hcz145_4 : w33.cell? ⟨gb199, 4, none⟩ = some (.int .u8 0) := (blk_cell BK199.out 4).trans rfl
                  have hcz145_5 : w33.cell? ⟨gb199, 5, none⟩ = some (.int .u8 0) := (blk_cell BK199.out 5).trans rfl
                  have hcz145_6 : w33.cell? ⟨gb199, 6, none⟩ = some (.int .u8 0) := (blk_cell BK199.out 6).trans rfl
                  have hfz145_0 := blk_frozen BK199.out 0
                  have hfz145_1 := blk_frozen BK199.out 1
                  have hfz145_2 := blk_frozen BK199.out 2
                  have hfz145_3 := blk_frozen BK199.out 3
                  have hfz145_4 := blk_frozen BK199.out 4
                  have hfz145_5 := blk_frozen BK199.out 5
                  have hfz145_6 := blk_frozen BK199.out 6
                  go_wp2_with (first | (go_at_call 26; (with_reducible refine (cell_Right.calls t191 t192 t193 t194 t195 t196 t197 true _ A114.out).mono ?_); rintro e w146 ⟨rfl, hb⟩; have n0_ := Aside0.mk (blk_below (g := gb177) (o := .cells #[.int .i32 a0_0, .int .i32 a0_1, .int .i32 a0_2, .int .u8 a0_3, .int .u8 a0_4, .int .u8 a0_5, .int .u8 a0_6] 26 (0, 0)) (by (with_reducible repeat (first | refine blk_drewN ?_ _ | refine blk_drew ?_ | refine blk_alloc ?_ _)); refine blk_far ?_ NB177_199.out _; (with_reducible repeat (first | refine blk_drewN ?_ _ | refine blk_drew ?_ | refine blk_alloc ?_ _)); refine blk_far ?_ NB177_199.out _; (with_reducible repeat (first | refine blk_drewN ?_ _ | refine blk_drew ?_ | refine blk_alloc ?_ _)); refine blk_far ?_ NB177_199.out _; (with_reducible repeat (first | refine blk_drewN ?_ _ | refine blk_drew ?_ | refine blk_alloc ?_ _)); refine blk_far ?_ NB177_199.out _; (with_reducible repeat (first | refine blk_drewN ?_ _ | refine blk_drew ?_ | refine blk_alloc ?_ _)); refine blk_far ?_ NB177_199.out _; (with_reducible repeat (first | refine blk_drewN ?_ _ | refine blk_drew ?_ | refine blk_alloc ?_ _)); refine blk_far ?_ NB177_199.out _; (with_reducible repeat (first | refine blk_drewN ?_ _ | refine blk_drew ?_ | refine blk_alloc ?_ _)); refine blk_far ?_ NB177_199.out _; (with_reducible repeat (first | refine blk_drewN ?_ _ | refine blk_drew ?_ | refine blk_alloc ?_ _)); exact BK177.out) hb); have n1_ := Aside0.mk (blk_below (g := gb178) (o := .cells #[.int .u8 a2_0, .int .u8 a2_1, .int .u8 a2_2] 24 (0, 0)) (by (with_reducible repeat (first | refine blk_drewN ?_ _ | refine blk_drew ?_ | refine blk_alloc ?_ _)); refine blk_far ?_ NB178_199.out _; (with_reducible repeat (first | refine blk_drewN ?_ _ | refine blk_drew ?_ | refine blk_alloc ?_ _)); refine blk_far ?_ NB178_199.out _; (with_reducible repeat (first | refine blk_drewN ?_ _ | refine blk_drew ?_ | refine blk_alloc ?_ _)); refine blk_far ?_ NB178_199.out _; (with_reducible repeat (first | refine blk_drewN ?_ _ | refine blk_drew ?_ | refine blk_alloc ?_ _)); refine blk_far ?_ NB178_199.out _; (with_reducible repeat (first | refine blk_drewN ?_ _ | refine blk_drew ?_ | refine blk_alloc ?_ _)); refine blk_far ?_ NB178_199.out _; (with_reducible repeat (first | refine blk_drewN ?_ _ | refine blk_drew ?_ | refine blk_alloc ?_ _)); refine blk_far ?_ NB178_199.out _; (with_reducible repeat (first | refine blk_drewN ?_ _ | refine blk_drew ?_ | refine blk_alloc ?_ _)); refine blk_far ?_ NB178_199.out _; (with_reducible repeat (first | refine blk_drewN ?_ _ | refine blk_drew ?_ | refine blk_alloc ?_ _)); exact BK178.out) hb); have n2_ := Aside0.mk (blk_below (g := gb190) (o := .cells #[.int .i32 t182, .int .i32 t183, .int .i32 t184, .int .u8 t185, .int .u8 t186, .int .u8 t187, .int .u8 t188] 26 (0, 0)) (by (with_reducible repeat (first | refine blk_drewN ?_ _ | refine blk_drew ?_ | refine blk_alloc ?_ _)); refine blk_far ?_ NB190_199.out _; (with_reducible repeat (first | refine blk_drewN ?_ _ | refine blk_drew ?_ | refine blk_alloc ?_ _)); refine blk_far ?_ NB190_199.out _; (with_reducible repeat (first | refine blk_drewN ?_ _ | refine blk_drew ?_ | refine blk_alloc ?_ _)); refine blk_far ?_ NB190_199.out _; (with_reducible repeat (first | refine blk_drewN ?_ _ | refine blk_drew ?_ | refine blk_alloc ?_ _)); refine blk_far ?_ NB190_199.out _; (with_reducible repeat (first | refine blk_drewN ?_ _ | refine blk_drew ?_ | refine blk_alloc ?_ _)); refine blk_far ?_ NB190_199.out _; (with_reducible repeat (first | refine blk_drewN ?_ _ | refine blk_drew ?_ | refine blk_alloc ?_ _)); refine blk_far ?_ NB190_199.out _; (with_reducible repeat (first | refine blk_drewN ?_ _ | refine blk_drew ?_ | refine blk_alloc ?_ _)); refine blk_far ?_ NB190_199.out _; (with_reducible repeat (first | refine blk_drewN ?_ _ | refine blk_drew ?_ | refine blk_alloc ?_ _)); exact BK190.out) hb); have n3_ := Aside0.mk (blk_below (g := gb199) (o := .cells #[.int .i32 t191, .int .i32 t192, .int .i32 t193, .int .u8 t194, .int .u8 t195, .int .u8 t196, .int .u8 t197] 26 (0, 0)) (by (with_reducible repeat (first | refine blk_drewN ?_ _ | refine blk_drew ?_ | refine blk_alloc ?_ _)); refine blk_put (cs := #[.int .i32 t191, .int .i32 t192, .int .i32 t193, .int .u8 t194, .int .u8 t195, .int .u8 t196, .int .u8 0]) ?_ 6 _ rfl; (with_reducible repeat (first | refine blk_drewN ?_ _ | refine blk_drew ?_ | refine blk_alloc ?_ _)); refine blk_put (cs := #[.int .i32 t191, .int .i32 t192, .int .i32 t193, .int .u8 t194, .int .u8 t195, .int .u8 0, .int .u8 0]) ?_ 5 _ rfl; (with_reducible repeat (first | refine blk_drewN ?_ _ | refine blk_drew ?_ | refine blk_alloc ?_ _)); refine blk_put (cs := #[.int .i32 t191, .int .i32 t192, .int .i32 t193, .int .u8 t194, .int .u8 0, .int .u8 0, .int .u8 0]) ?_ 4 _ rfl; (with_reducible repeat (first | refine blk_drewN ?_ _ | refine blk_drew ?_ | refine blk_alloc ?_ _)); refine blk_put (cs := #[.int .i32 t191, .int .i32 t192, .int .i32 t193, .int .u8 0, .int .u8 0, .int .u8 0, .int .u8 0]) ?_ 3 _ rfl; (with_reducible repeat (first | refine blk_drewN ?_ _ | refine blk_drew ?_ | refine blk_alloc ?_ _)); refine blk_put (cs := #[.int .i32 t191, .int .i32 t192, .int .i32 0, .int .u8 0, .int .u8 0, .int .u8 0, .int .u8 0]) ?_ 2 _ rfl; (with_reducible repeat (first | refine blk_drewN ?_ _ | refine blk_drew ?_ | refine blk_alloc ?_ _)); refine blk_put (cs := #[.int .i32 t191, .int .i32 0, .int .i32 0, .int .u8 0, .int .u8 0, .int .u8 0, .int .u8 0]) ?_ 1 _ rfl; (with_reducible repeat (first | refine blk_drewN ?_ _ | refine blk_drew ?_ | refine blk_alloc ?_ _)); refine blk_put (cs := #[.int .i32 0, .int .i32 0, .int .i32 0, .int .u8 0, .int .u8 0, .int .u8 0, .int .u8 0]) ?_ 0 _ rfl; (with_reducible repeat (first | refine blk_drewN ?_ _ | refine blk_drew ?_ | refine blk_alloc ?_ _)); exact BK199.out) hb); have n4_ := Aside0.mk (below_step (by repeat (first | (with_reducible first | exact HB.out | apply below_alloc | apply pw_below_drewN | apply below_drew1 | refine below_set ?_ GE177.out | refine below_set ?_ GE178.out | refine below_set ?_ GE190.out | refine below_set ?_ GE199.out) | exact HB.out)) hb); clear BK177; clear BK178; clear BK190; clear BK199; clear HB; have BK177 := n0_; have BK178 := n1_; have BK190 := n2_; have BK199 := n3_; have HB := n4_; clear n0_ n1_ n2_ n3_ n4_; (try clear hb); (try clear hb2); (try clear hk); (try clear hi); have hnb147 := NB177_178.out; have hnc147 := NB178_177.out; have hnb148 := NB177_190.out; have hnc148 := NB190_177.out; have hcz149_0 : w146.cell? ⟨gb177, 0, none⟩ = some (.int .i32 a0_0) := (blk_cell BK177.out 0).trans rfl; have hcz149_1 : w146.cell? ⟨gb177, 1, none⟩ = some (.int .i32 a0_1) := (blk_cell BK177.out 1).trans rfl; have hcz149_2 : w146.cell? ⟨gb177, 2, none⟩ = some (.int .i32 a0_2) := (blk_cell BK177.out 2).trans rfl; have hcz149_3 : w146.cell? ⟨gb177, 3, none⟩ = some (.int .u8 a0_3) := (blk_cell BK177.out 3).trans rfl; have hcz149_4 : w146.cell? ⟨gb177, 4, none⟩ = some (.int .u8 a0_4) := (blk_cell BK177.out 4).trans rfl; have hcz149_5 : w146.cell? ⟨gb177, 5, none⟩ = some (.int .u8 a0_5) := (blk_cell BK177.out 5).trans rfl; have hcz149_6 : w146.cell? ⟨gb177, 6, none⟩ = some (.int .u8 a0_6) := (blk_cell BK177.out 6).trans rfl; have hfz149_0 := blk_frozen BK177.out 0; have hfz149_1 := blk_frozen BK177.out 1; have hfz149_2 := blk_frozen BK177.out 2; have hfz149_3 := blk_frozen BK177.out 3; have hfz149_4 := blk_frozen BK177.out 4; have hfz149_5 := blk_frozen BK177.out 5; have hfz149_6 := blk_frozen BK177.out 6) | (go_at_call 23; (with_reducible refine (cell_Rest.calls a0_0 a0_1 a0_2 a0_3 a0_4 a0_5 a0_6 t227 t228 t229 t230 t231 t232 t233 _ A116.out).mono ?_); rintro e w150 ⟨rfl, hb⟩; have n0_ := Aside0.mk (blk_below (g := gb177) (o := .cells #[.int .i32 a0_0, .int .i32 a0_1, .int .i32 a0_2, .int .u8 a0_3, .int .u8 a0_4, .int .u8 a0_5, .int .u8 a0_6] 26 (0, 0)) (by (with_reducible repeat (first | refine blk_drewN ?_ _ | refine blk_drew ?_ | refine blk_alloc ?_ _)); exact BK177.out) hb); have n1_ := Aside0.mk (blk_below (g := gb178) (o := .cells #[.int .u8 a2_0, .int .u8 a2_1, .int .u8 a2_2] 24 (0, 0)) (by (with_reducible repeat (first | refine blk_drewN ?_ _ | refine blk_drew ?_ | refine blk_alloc ?_ _)); exact BK178.out) hb); have n2_ := Aside0.mk (blk_below (g := gb190) (o := .cells #[.int .i32 t182, .int .i32 t183, .int .i32 t184, .int .u8 t185, .int .u8 t186, .int .u8 t187, .int .u8 t188] 26 (0, 0)) (by (with_reducible repeat (first | refine blk_drewN ?_ _ | refine blk_drew ?_ | refine blk_alloc ?_ _)); exact BK190.out) hb); have n3_ := Aside0.mk (blk_below (g := gb199) (o := .cells #[.int .i32 t191, .int .i32 t192, .int .i32 t193, .int .u8 t194, .int .u8 t195, .int .u8 t196, .int .u8 t197] 26 (0, 0)) (by (with_reducible repeat (first | refine blk_drewN ?_ _ | refine blk_drew ?_ | refine blk_alloc ?_ _)); exact BK199.out) hb); have n4_ := Aside0.mk (below_step (by repeat (first | (with_reducible first | exact HB.out | apply below_alloc | apply pw_below_drewN | apply below_drew1 | refine below_set ?_ GE177.out | refine below_set ?_ GE178.out | refine below_set ?_ GE190.out | refine below_set ?_ GE199.out) | exact HB.out)) hb); clear BK177; clear BK178; clear BK190; clear BK199; clear HB; have BK177 := n0_; have BK178 := n1_; have BK190 := n2_; have BK199 := n3_; have HB := n4_; clear n0_ n1_ n2_ n3_ n4_; (try clear hb); (try clear hb2); (try clear hk); (try clear hi)) | (go_at_call 26; (with_reducible refine (cell_Right.calls t227 t228 t229 t230 t231 t232 t233 true _ A117.out).mono ?_); rintro e w151 ⟨rfl, hb⟩; have n0_ := Aside0.mk (blk_below (g := gb177) (o := .cells #[.int .i32 a0_0, .int .i32 a0_1, .int .i32 a0_2, .int .u8 a0_3, .int .u8 a0_4, .int .u8 a0_5, .int .u8 a0_6] 26 (0, 0)) (by (with_reducible repeat (first | refine blk_drewN ?_ _ | refine blk_drew ?_ | refine blk_alloc ?_ _)); exact BK177.out) hb); have n1_ := Aside0.mk (blk_below (g := gb178) (o := .cells #[.int .u8 a2_0, .int .u8 a2_1, .int .u8 a2_2] 24 (0, 0)) (by (with_reducible repeat (first | refine blk_drewN ?_ _ | refine blk_drew ?_ | refine blk_alloc ?_ _)); exact BK178.out) hb); have n2_ := Aside0.mk (blk_below (g := gb190) (o := .cells #[.int .i32 t182, .int .i32 t183, .int .i32 t184, .int .u8 t185, .int .u8 t186, .int .u8 t187, .int .u8 t188] 26 (0, 0)) (by (with_reducible repeat (first | refine blk_drewN ?_ _ | refine blk_drew ?_ | refine blk_alloc ?_ _)); exact BK190.out) hb); have n3_ := Aside0.mk (blk_below (g := gb199) (o := .cells #[.int .i32 t191, .int .i32 t192, .int .i32 t193, .int .u8 t194, .int .u8 t195, .int .u8 t196, .int .u8 t197] 26 (0, 0)) (by (with_reducible repeat (first | refine blk_drewN ?_ _ | refine blk_drew ?_ | refine blk_alloc ?_ _)); exact BK199.out) hb); have n4_ := Aside0.mk (below_step (by repeat (first | (with_reducible first | exact HB.out | apply below_alloc | apply pw_below_drewN | apply below_drew1 | refine below_set ?_ GE177.out | refine below_set ?_ GE178.out | refine below_set ?_ GE190.out | refine below_set ?_ GE199.out) | exact HB.out)) hb); clear BK177; clear BK178; clear BK190; clear BK199; clear HB; have BK177 := n0_; have BK178 := n1_; have BK190 := n2_; have BK199 := n3_; have HB := n4_; clear n0_ n1_ n2_ n3_ n4_; (try clear hb); (try clear hb2); (try clear hk); (try clear hi); have hnb152 := NB178_190.out; have hnc152 := NB190_178.out; have hcz153_0 : w151.cell? ⟨gb178, 0, none⟩ = some (.int .u8 a2_0) := (blk_cell BK178.out 0).trans rfl; have hcz153_1 : w151.cell? ⟨gb178, 1, none⟩ = some (.int .u8 a2_1) := (blk_cell BK178.out 1).trans rfl; have hcz153_2 : w151.cell? ⟨gb178, 2, none⟩ = some (.int .u8 a2_2) := (blk_cell BK178.out 2).trans rfl; have hfz153_0 := blk_frozen BK178.out 0; have hfz153_1 := blk_frozen BK178.out 1; have hfz153_2 := blk_frozen BK178.out 2) | (go_at_call 21; (with_reducible refine (cell_Blank.calls a2_0 a2_1 a2_2 t235 t236 t237 t238 t239 t240 t241 _ A119.out).mono ?_); rintro e w154 ⟨rfl, hb⟩; have n0_ := Aside0.mk (blk_below (g := gb177) (o := .cells #[.int .i32 a0_0, .int .i32 a0_1, .int .i32 a0_2, .int .u8 a0_3, .int .u8 a0_4, .int .u8 a0_5, .int .u8 a0_6] 26 (0, 0)) (by (with_reducible repeat (first | refine blk_drewN ?_ _ | refine blk_drew ?_ | refine blk_alloc ?_ _)); exact BK177.out) hb); have n1_ := Aside0.mk (blk_below (g := gb178) (o := .cells #[.int .u8 a2_0, .int .u8 a2_1, .int .u8 a2_2] 24 (0, 0)) (by (with_reducible repeat (first | refine blk_drewN ?_ _ | refine blk_drew ?_ | refine blk_alloc ?_ _)); exact BK178.out) hb); have n2_ := Aside0.mk (blk_below (g := gb190) (o := .cells #[.int .i32 t182, .int .i32 t183, .int .i32 t184, .int .u8 t185, .int .u8 t186, .int .u8 t187, .int .u8 t188] 26 (0, 0)) (by (with_reducible repeat (first | refine blk_drewN ?_ _ | refine blk_drew ?_ | refine blk_alloc ?_ _)); exact BK190.out) hb); have n3_ := Aside0.mk (blk_below (g := gb199) (o := .cells #[.int .i32 t191, .int .i32 t192, .int .i32 t193, .int .u8 t194, .int .u8 t195, .int .u8 t196, .int .u8 t197] 26 (0, 0)) (by (with_reducible repeat (first | refine blk_drewN ?_ _ | refine blk_drew ?_ | refine blk_alloc ?_ _)); exact BK199.out) hb); have n4_ := Aside0.mk (below_step (by repeat (first | (with_reducible first | exact HB.out | apply below_alloc | apply pw_below_drewN | apply below_drew1 | refine below_set ?_ GE177.out | refine below_set ?_ GE178.out | refine below_set ?_ GE190.out | refine below_set ?_ GE199.out) | exact HB.out)) hb); clear BK177; clear BK178; clear BK190; clear BK199; clear HB; have BK177 := n0_; have BK178 := n1_; have BK190 := n2_; have BK199 := n3_; have HB := n4_; clear n0_ n1_ n2_ n3_ n4_; (try clear hb); (try clear hb2); (try clear hk); (try clear hi)) | (go_at_call 26; (with_reducible refine (cell_Right.calls t235 t236 t237 t238 t239 t240 t241 false _ A120.out).mono ?_); rintro e w155 ⟨rfl, hb⟩; have n0_ := Aside0.mk (blk_below (g := gb177) (o := .cells #[.int .i32 a0_0, .int .i32 a0_1, .int .i32 a0_2, .int .u8 a0_3, .int .u8 a0_4, .int .u8 a0_5, .int .u8 a0_6] 26 (0, 0)) (by (with_reducible repeat (first | refine blk_drewN ?_ _ | refine blk_drew ?_ | refine blk_alloc ?_ _)); exact BK177.out) hb); have n1_ := Aside0.mk (blk_below (g := gb178) (o := .cells #[.int .u8 a2_0, .int .u8 a2_1, .int .u8 a2_2] 24 (0, 0)) (by (with_reducible repeat (first | refine blk_drewN ?_ _ | refine blk_drew ?_ | refine blk_alloc ?_ _)); exact BK178.out) hb); have n2_ := Aside0.mk (blk_below (g := gb190) (o := .cells #[.int .i32 t182, .int .i32 t183, .int .i32 t184, .int .u8 t185, .int .u8 t186, .int .u8 t187, .int .u8 t188] 26 (0, 0)) (by (with_reducible repeat (first | refine blk_drewN ?_ _ | refine blk_drew ?_ | refine blk_alloc ?_ _)); exact BK190.out) hb); have n3_ := Aside0.mk (blk_below (g := gb199) (o := .cells #[.int .i32 t191, .int .i32 t192, .int .i32 t193, .int .u8 t194, .int .u8 t195, .int .u8 t196, .int .u8 t197] 26 (0, 0)) (by (with_reducible repeat (first | refine blk_drewN ?_ _ | refine blk_drew ?_ | refine blk_alloc ?_ _)); exact BK199.out) hb); have n4_ := Aside0.mk (below_step (by repeat (first | (with_reducible first | exact HB.out | apply below_alloc | apply pw_below_drewN | apply below_drew1 | refine below_set ?_ GE177.out | refine below_set ?_ GE178.out | refine below_set ?_ GE190.out | refine below_set ?_ GE199.out) | exact HB.out)) hb); clear BK177; clear BK178; clear BK190; clear BK199; clear HB; have BK177 := n0_; have BK178 := n1_; have BK190 := n2_; have BK199 := n3_; have HB := n4_; clear n0_ n1_ n2_ n3_ n4_; (try clear hb); (try clear hb2); (try clear hk); (try clear hi)))
                  go_meet
                  case rel => exact ⟨_, (true), (by first | rfl | (simp; done) | (simp [*]; done)), H', ⟨by have := HJ3.out; first | omega | exact Nat.le_refl _⟩, ⟨by (with_reducible repeat (first | refine blk_drewN ?_ _ | refine blk_drew ?_ | refine blk_alloc ?_ _)); exact BK177.out⟩, ⟨by (with_reducible repeat (first | refine blk_drewN ?_ _ | refine blk_drew ?_ | refine blk_alloc ?_ _)); exact BK178.out⟩, ⟨by (with_reducible repeat (first | refine blk_drewN ?_ _ | refine blk_drew ?_ | refine blk_alloc ?_ _)); exact BK190.out⟩, ⟨by (with_reducible repeat (first | refine blk_drewN ?_ _ | refine blk_drew ?_ | refine blk_alloc ?_ _)); exact BK199.out⟩, ⟨by repeat (first | (with_reducible first | exact HB.out | apply below_alloc | apply pw_below_drewN | apply below_drew1 | refine below_set ?_ GE177.out | refine below_set ?_ GE178.out | refine below_set ?_ GE190.out | refine below_set ?_ GE199.out) | exact HB.out)⟩⟩
              · replace c118 := Bool.eq_false_iff.mpr c118
                subst c118
                have H1 : (prolepsislaw05_CellStays.j1 kj3 true a0_0 a0_1 a0_2 a0_3 a0_4 a0_5 a0_6) = some r := by rw [if_neg (show ¬ (false = true) by decide)] at H; exact H
                clear H
                have H := H1
                clear H1
                have H' := Aside0.mk H
                clear H
                have hnb156 := NB199_177.out
                have hnc156 := NB177_199.out
                have hnb157 := NB199_178.out
                have hnc157 := NB178_199.out
                have hnb158 := NB199_190.out
                have hnc158 := NB190_199.out
                have hcz159_0 : w33.cell? ⟨gb199, 0, none⟩ = some (.int .i32 0) := (blk_cell BK199.out 0).trans rfl
                have hcz159_1 : w33.cell? ⟨gb199, 1, none⟩ = some (.int .i32 0) := (blk_cell BK199.out 1).trans rfl
                have hcz159_2 : w33.cell? ⟨gb199, 2, none⟩ = some (.int .i32 0) := (blk_cell BK199.out 2).trans rfl
                have hcz159_3 : w33.cell? ⟨gb199, 3, none⟩ = some (.int .u8 0) := (blk_cell BK199.out 3).trans rfl
                have hcz159_4 : w33.cell? ⟨gb199, 4, none⟩ = some (.int .u8 0) := (blk_cell BK199.out 4).trans rfl
                have hcz159_5 : w33.cell? ⟨gb199, 5, none⟩ = some (.int .u8 0) := (blk_cell BK199.out 5).trans rfl
                have hcz159_6 : w33.cell? ⟨gb199, 6, none⟩ = some (.int .u8 0) := (blk_cell BK199.out 6).trans rfl
                have hfz159_0 := blk_frozen BK199.out 0
                have hfz159_1 := blk_frozen BK199.out 1
                have hfz159_2 := blk_frozen BK199.out 2
                have hfz159_3 := blk_frozen BK199.out 3
                have hfz159_4 := blk_frozen BK199.out 4
                have hfz159_5 := blk_frozen BK199.out 5
                have hfz159_6 := blk_frozen BK199.out 6
                go_wp2_with (first | (go_at_call 26; (with_reducible refine (cell_Right.calls t191 t192 t193 t194 t195 t196 t197 true _ A114.out).mono ?_); rintro e w160 ⟨rfl, hb⟩; have n0_ := Aside0.mk (blk_below (g := gb177) (o := .cells #[.int .i32 a0_0, .int .i32 a0_1, .int .i32 a0_2, .int .u8 a0_3, .int .u8 a0_4, .int .u8 a0_5, .int .u8 a0_6] 26 (0, 0)) (by (with_reducible repeat (first | refine blk_drewN ?_ _ | refine blk_drew ?_ | refine blk_alloc ?_ _)); refine blk_far ?_ NB177_199.out _; (with_reducible repeat (first | refine blk_drewN ?_ _ | refine blk_drew ?_ | refine blk_alloc ?_ _)); refine blk_far ?_ NB177_199.out _; (with_reducible repeat (first | refine blk_drewN ?_ _ | refine blk_drew ?_ | refine blk_alloc ?_ _)); refine blk_far ?_ NB177_199.out _; (with_reducible repeat (first | refine blk_drewN ?_ _ | refine blk_drew ?_ | refine blk_alloc ?_ _)); refine blk_far ?_ NB177_199.out _; (with_reducible repeat (first | refine blk_drewN ?_ _ | refine blk_drew ?_ | refine blk_alloc ?_ _)); refine blk_far ?_ NB177_199.out _; (with_reducible repeat (first | refine blk_drewN ?_ _ | refine blk_drew ?_ | refine blk_alloc ?_ _)); refine blk_far ?_ NB177_199.out _; (with_reducible repeat (first | refine blk_drewN ?_ _ | refine blk_drew ?_ | refine blk_alloc ?_ _)); refine blk_far ?_ NB177_199.out _; (with_reducible repeat (first | refine blk_drewN ?_ _ | refine blk_drew ?_ | refine blk_alloc ?_ _)); exact BK177.out) hb); have n1_ := Aside0.mk (blk_below (g := gb178) (o := .cells #[.int .u8 a2_0, .int .u8 a2_1, .int .u8 a2_2] 24 (0, 0)) (by (with_reducible repeat (first | refine blk_drewN ?_ _ | refine blk_drew ?_ | refine blk_alloc ?_ _)); refine blk_far ?_ NB178_199.out _; (with_reducible repeat (first | refine blk_drewN ?_ _ | refine blk_drew ?_ | refine blk_alloc ?_ _)); refine blk_far ?_ NB178_199.out _; (with_reducible repeat (first | refine blk_drewN ?_ _ | refine blk_drew ?_ | refine blk_alloc ?_ _)); refine blk_far ?_ NB178_199.out _; (with_reducible repeat (first | refine blk_drewN ?_ _ | refine blk_drew ?_ | refine blk_alloc ?_ _)); refine blk_far ?_ NB178_199.out _; (with_reducible repeat (first | refine blk_drewN ?_ _ | refine blk_drew ?_ | refine blk_alloc ?_ _)); refine blk_far ?_ NB178_199.out _; (with_reducible repeat (first | refine blk_drewN ?_ _ | refine blk_drew ?_ | refine blk_alloc ?_ _)); refine blk_far ?_ NB178_199.out _; (with_reducible repeat (first | refine blk_drewN ?_ _ | refine blk_drew ?_ | refine blk_alloc ?_ _)); refine blk_far ?_ NB178_199.out _; (with_reducible repeat (first | refine blk_drewN ?_ _ | refine blk_drew ?_ | refine blk_alloc ?_ _)); exact BK178.out) hb); have n2_ := Aside0.mk (blk_below (g := gb190) (o := .cells #[.int .i32 t182, .int .i32 t183, .int .i32 t184, .int .u8 t185, .int .u8 t186, .int .u8 t187, .int .u8 t188] 26 (0, 0)) (by (with_reducible repeat (first | refine blk_drewN ?_ _ | refine blk_drew ?_ | refine blk_alloc ?_ _)); refine blk_far ?_ NB190_199.out _; (with_reducible repeat (first | refine blk_drewN ?_ _ | refine blk_drew ?_ | refine blk_alloc ?_ _)); refine blk_far ?_ NB190_199.out _; (with_reducible repeat (first | refine blk_drewN ?_ _ | refine blk_drew ?_ | refine blk_alloc ?_ _)); refine blk_far ?_ NB190_199.out _; (with_reducible repeat (first | refine blk_drewN ?_ _ | refine blk_drew ?_ | refine blk_alloc ?_ _)); refine blk_far ?_ NB190_199.out _; (with_reducible repeat (first | refine blk_drewN ?_ _ | refine blk_drew ?_ | refine blk_alloc ?_ _)); refine blk_far ?_ NB190_199.out _; (with_reducible repeat (first | refine blk_drewN ?_ _ | refine blk_drew ?_ | refine blk_alloc ?_ _)); refine blk_far ?_ NB190_199.out _; (with_reducible repeat (first | refine blk_drewN ?_ _ | refine blk_drew ?_ | refine blk_alloc ?_ _)); refine blk_far ?_ NB190_199.out _; (with_reducible repeat (first | refine blk_drewN ?_ _ | refine blk_drew ?_ | refine blk_alloc ?_ _)); exact BK190.out) hb); have n3_ := Aside0.mk (blk_below (g := gb199) (o := .cells #[.int .i32 t191, .int .i32 t192, .int .i32 t193, .int .u8 t194, .int .u8 t195, .int .u8 t196, .int .u8 t197] 26 (0, 0)) (by (with_reducible repeat (first | refine blk_drewN ?_ _ | refine blk_drew ?_ | refine blk_alloc ?_ _)); refine blk_put (cs := #[.int .i32 t191, .int .i32 t192, .int .i32 t193, .int .u8 t194, .int .u8 t195, .int .u8 t196, .int .u8 0]) ?_ 6 _ rfl; (with_reducible repeat (first | refine blk_drewN ?_ _ | refine blk_drew ?_ | refine blk_alloc ?_ _)); refine blk_put (cs := #[.int .i32 t191, .int .i32 t192, .int .i32 t193, .int .u8 t194, .int .u8 t195, .int .u8 0, .int .u8 0]) ?_ 5 _ rfl; (with_reducible repeat (first | refine blk_drewN ?_ _ | refine blk_drew ?_ | refine blk_alloc ?_ _)); refine blk_put (cs := #[.int .i32 t191, .int .i32 t192, .int .i32 t193, .int .u8 t194, .int .u8 0, .int .u8 0, .int .u8 0]) ?_ 4 _ rfl; (with_reducible repeat (first | refine blk_drewN ?_ _ | refine blk_drew ?_ | refine blk_alloc ?_ _)); refine blk_put (cs := #[.int .i32 t191, .int .i32 t192, .int .i32 t193, .int .u8 0, .int .u8 0, .int .u8 0, .int .u8 0]) ?_ 3 _ rfl; (with_reducible repeat (first | refine blk_drewN ?_ _ | refine blk_drew ?_ | refine blk_alloc ?_ _)); refine blk_put (cs := #[.int .i32 t191, .int .i32 t192, .int .i32 0, .int .u8 0, .int .u8 0, .int .u8 0, .int .u8 0]) ?_ 2 _ rfl; (with_reducible repeat (first | refine blk_drewN ?_ _ | refine blk_drew ?_ | refine blk_alloc ?_ _)); refine blk_put (cs := #[.int .i32 t191, .int .i32 0, .int .i32 0, .int .u8 0, .int .u8 0, .int .u8 0, .int .u8 0]) ?_ 1 _ rfl; (with_reducible repeat (first | refine blk_drewN ?_ _ | refine blk_drew ?_ | refine blk_alloc ?_ _)); refine blk_put (cs := #[.int .i32 0, .int .i32 0, .int .i32 0, .int .u8 0, .int .u8 0, .int .u8 0, .int .u8 0]) ?_ 0 _ rfl; (with_reducible repeat (first | refine blk_drewN ?_ _ | refine blk_drew ?_ | refine blk_alloc ?_ _)); exact BK199.out) hb); have n4_ := Aside0.mk (below_step (by repeat (first | (with_reducible first | exact HB.out | apply below_alloc | apply pw_below_drewN | apply below_drew1 | refine below_set ?_ GE177.out | refine below_set ?_ GE178.out | refine below_set ?_ GE190.out | refine below_set ?_ GE199.out) | exact HB.out)) hb); clear BK177; clear BK178; clear BK190; clear BK199; clear HB; have BK177 := n0_; have BK178 := n1_; have BK190 := n2_; have BK199 := n3_; have HB := n4_; clear n0_ n1_ n2_ n3_ n4_; (try clear hb); (try clear hb2); (try clear hk); (try clear hi); have hnb161 := NB177_178.out; have hnc161 := NB178_177.out; have hnb162 := NB177_190.out; have hnc162 := NB190_177.out; have hcz163_0 : w160.cell? ⟨gb177, 0, none⟩ = some (.int .i32 a0_0) := (blk_cell BK177.out 0).trans rfl; have hcz163_1 : w160.cell? ⟨gb177, 1, none⟩ = some (.int .i32 a0_1) := (blk_cell BK177.out 1).trans rfl; have hcz163_2 : w160.cell? ⟨gb177, 2, none⟩ = some (.int .i32 a0_2) := (blk_cell BK177.out 2).trans rfl; have hcz163_3 : w160.cell? ⟨gb177, 3, none⟩ = some (.int .u8 a0_3) := (blk_cell BK177.out 3).trans rfl; have hcz163_4 : w160.cell? ⟨gb177, 4, none⟩ = some (.int .u8 a0_4) := (blk_cell BK177.out 4).trans rfl; have hcz163_5 : w160.cell? ⟨gb177, 5, none⟩ = some (.int .u8 a0_5) := (blk_cell BK177.out 5).trans rfl; have hcz163_6 : w160.cell? ⟨gb177, 6, none⟩ = some (.int .u8 a0_6) := (blk_cell BK177.out 6).trans rfl; have hfz163_0 := blk_frozen BK177.out 0; have hfz163_1 := blk_frozen BK177.out 1; have hfz163_2 := blk_frozen BK177.out 2; have hfz163_3 := blk_frozen BK177.out 3; have hfz163_4 := blk_frozen BK177.out 4; have hfz163_5 := blk_frozen BK177.out 5; have hfz163_6 := blk_frozen BK177.out 6) | (go_at_call 23; (with_reducible refine (cell_Rest.calls a0_0 a0_1 a0_2 a0_3 a0_4 a0_5 a0_6 t227 t228 t229 t230 t231 t232 t233 _ A116.out).mono ?_); rintro e w164 ⟨rfl, hb⟩; have n0_ := Aside0.mk (blk_below (g := gb177) (o := .cells #[.int .i32 a0_0, .int .i32 a0_1, .int .i32 a0_2, .int .u8 a0_3, .int .u8 a0_4, .int .u8 a0_5, .int .u8 a0_6] 26 (0, 0)) (by (with_reducible repeat (first | refine blk_drewN ?_ _ | refine blk_drew ?_ | refine blk_alloc ?_ _)); exact BK177.out) hb); have n1_ := Aside0.mk (blk_below (g := gb178) (o := .cells #[.int .u8 a2_0, .int .u8 a2_1, .int .u8 a2_2] 24 (0, 0)) (by (with_reducible repeat (first | refine blk_drewN ?_ _ | refine blk_drew ?_ | refine blk_alloc ?_ _)); exact BK178.out) hb); have n2_ := Aside0.mk (blk_below (g := gb190) (o := .cells #[.int .i32 t182, .int .i32 t183, .int .i32 t184, .int .u8 t185, .int .u8 t186, .int .u8 t187, .int .u8 t188] 26 (0, 0)) (by (with_reducible repeat (first | refine blk_drewN ?_ _ | refine blk_drew ?_ | refine blk_alloc ?_ _)); exact BK190.out) hb); have n3_ := Aside0.mk (blk_below (g := gb199) (o := .cells #[.int .i32 t191, .int .i32 t192, .int .i32 t193, .int .u8 t194, .int .u8 t195, .int .u8 t196, .int .u8 t197] 26 (0, 0)) (by (with_reducible repeat (first | refine blk_drewN ?_ _ | refine blk_drew ?_ | refine blk_alloc ?_ _)); exact BK199.out) hb); have n4_ := Aside0.mk (below_step (by repeat (first | (with_reducible first | exact HB.out | apply below_alloc | apply pw_below_drewN | apply below_drew1 | refine below_set ?_ GE177.out | refine below_set ?_ GE178.out | refine below_set ?_ GE190.out | refine below_set ?_ GE199.out) | exact HB.out)) hb); clear BK177; clear BK178; clear BK190; clear BK199; clear HB; have BK177 := n0_; have BK178 := n1_; have BK190 := n2_; have BK199 := n3_; have HB := n4_; clear n0_ n1_ n2_ n3_ n4_; (try clear hb); (try clear hb2); (try clear hk); (try clear hi)) | (go_at_call 26; (with_reducible refine (cell_Right.calls t227 t228 t229 t230 t231 t232 t233 false _ A117.out).mono ?_); rintro e w165 ⟨rfl, hb⟩; have n0_ := Aside0.mk (blk_below (g := gb177) (o := .cells #[.int .i32 a0_0, .int .i32 a0_1, .int .i32 a0_2, .int .u8 a0_3, .int .u8 a0_4, .int .u8 a0_5, .int .u8 a0_6] 26 (0, 0)) (by (with_reducible repeat (first | refine blk_drewN ?_ _ | refine blk_drew ?_ | refine blk_alloc ?_ _)); exact BK177.out) hb); have n1_ := Aside0.mk (blk_below (g := gb178) (o := .cells #[.int .u8 a2_0, .int .u8 a2_1, .int .u8 a2_2] 24 (0, 0)) (by (with_reducible repeat (first | refine blk_drewN ?_ _ | refine blk_drew ?_ | refine blk_alloc ?_ _)); exact BK178.out) hb); have n2_ := Aside0.mk (blk_below (g := gb190) (o := .cells #[.int .i32 t182, .int .i32 t183, .int .i32 t184, .int .u8 t185, .int .u8 t186, .int .u8 t187, .int .u8 t188] 26 (0, 0)) (by (with_reducible repeat (first | refine blk_drewN ?_ _ | refine blk_drew ?_ | refine blk_alloc ?_ _)); exact BK190.out) hb); have n3_ := Aside0.mk (blk_below (g := gb199) (o := .cells #[.int .i32 t191, .int .i32 t192, .int .i32 t193, .int .u8 t194, .int .u8 t195, .int .u8 t196, .int .u8 t197] 26 (0, 0)) (by (with_reducible repeat (first | refine blk_drewN ?_ _ | refine blk_drew ?_ | refine blk_alloc ?_ _)); exact BK199.out) hb); have n4_ := Aside0.mk (below_step (by repeat (first | (with_reducible first | exact HB.out | apply below_alloc | apply pw_below_drewN | apply below_drew1 | refine below_set ?_ GE177.out | refine below_set ?_ GE178.out | refine below_set ?_ GE190.out | refine below_set ?_ GE199.out) | exact HB.out)) hb); clear BK177; clear BK178; clear BK190; clear BK199; clear HB; have BK177 := n0_; have BK178 := n1_; have BK190 := n2_; have BK199 := n3_; have HB := n4_; clear n0_ n1_ n2_ n3_ n4_; (try clear hb); (try clear hb2); (try clear hk); (try clear hi)))
                go_meet
                case rel => exact ⟨_, (true), (by first | rfl | (simp; done) | (simp [*]; done)), H', ⟨by have := HJ3.out; first | omega | exact Nat.le_refl _⟩, ⟨by (with_reducible repeat (first | refine blk_drewN ?_ _ | refine blk_drew ?_ | refine blk_alloc ?_ _)); exact BK177.out⟩, ⟨by (with_reducible repeat (first | refine blk_drewN ?_ _ | refine blk_drew ?_ | refine blk_alloc ?_ _)); exact BK178.out⟩, ⟨by (with_reducible repeat (first | refine blk_drewN ?_ _ | refine blk_drew ?_ | refine blk_alloc ?_ _)); exact BK190.out⟩, ⟨by (with_reducible repeat (first | refine blk_drewN ?_ _ | refine blk_drew ?_ | refine blk_alloc ?_ _)); exact BK199.out⟩, ⟨by repeat (first | (with_reducible first | exact HB.out | apply below_alloc | apply pw_below_drewN | apply below_drew1 | refine below_set ?_ GE177.out | refine below_set ?_ GE178.out | refine below_set ?_ GE190.out | refine below_set ?_ GE199.out) | exact HB.out)⟩⟩
            · replace c115 := Bool.eq_false_iff.mpr c115
              subst c115
              have H1 : (prolepsislaw05_CellStays.j1 kj3 true a0_0 a0_1 a0_2 a0_3 a0_4 a0_5 a0_6) = some r := by rw [if_neg (show ¬ (false = true) by decide)] at H; exact H
              clear H
              have H := H1
              clear H1
              have H' := Aside0.mk H
              clear H
              have hnb166 := NB199_177.out
              have hnc166 := NB177_199.out
              have hnb167 := NB199_178.out
              have hnc167 := NB178_199.out
              have hnb168 := NB199_190.out
              have hnc168 := NB190_199.out
              have hcz169_0 : w33.cell? ⟨gb199, 0, none⟩ = some (.int .i32 0) := (blk_cell BK199.out 0).trans rfl
              have hcz169_1 : w33.cell? ⟨gb199, 1, none⟩ = some (.int .i32 0) := (blk_cell BK199.out 1).trans rfl
              have hcz169_2 : w33.cell? ⟨gb199, 2, none⟩ = some (.int .i32 0) := (blk_cell BK199.out 2).trans rfl
              have hcz169_3 : w33.cell? ⟨gb199, 3, none⟩ = some (.int .u8 0) := (blk_cell BK199.out 3).trans rfl
              have hcz169_4 : w33.cell? ⟨gb199, 4, none⟩ = some (.int .u8 0) := (blk_cell BK199.out 4).trans rfl
              have hcz169_5 : w33.cell? ⟨gb199, 5, none⟩ = some (.int .u8 0) := (blk_cell BK199.out 5).trans rfl
              have hcz169_6 : w33.cell? ⟨gb199, 6, none⟩ = some (.int .u8 0) := (blk_cell BK199.out 6).trans rfl
              have hfz169_0 := blk_frozen BK199.out 0
              have hfz169_1 := blk_frozen BK199.out 1
              have hfz169_2 := blk_frozen BK199.out 2
              have hfz169_3 := blk_frozen BK199.out 3
              have hfz169_4 := blk_frozen BK199.out 4
              have hfz169_5 := blk_frozen BK199.out 5
              have hfz169_6 := blk_frozen BK199.out 6
              go_wp2_with (first | (go_at_call 26; (with_reducible refine (cell_Right.calls t191 t192 t193 t194 t195 t196 t197 false _ A114.out).mono ?_); rintro e w170 ⟨rfl, hb⟩; have n0_ := Aside0.mk (blk_below (g := gb177) (o := .cells #[.int .i32 a0_0, .int .i32 a0_1, .int .i32 a0_2, .int .u8 a0_3, .int .u8 a0_4, .int .u8 a0_5, .int .u8 a0_6] 26 (0, 0)) (by (with_reducible repeat (first | refine blk_drewN ?_ _ | refine blk_drew ?_ | refine blk_alloc ?_ _)); refine blk_far ?_ NB177_199.out _; (with_reducible repeat (first | refine blk_drewN ?_ _ | refine blk_drew ?_ | refine blk_alloc ?_ _)); refine blk_far ?_ NB177_199.out _; (with_reducible repeat (first | refine blk_drewN ?_ _ | refine blk_drew ?_ | refine blk_alloc ?_ _)); refine blk_far ?_ NB177_199.out _; (with_reducible repeat (first | refine blk_drewN ?_ _ | refine blk_drew ?_ | refine blk_alloc ?_ _)); refine blk_far ?_ NB177_199.out _; (with_reducible repeat (first | refine blk_drewN ?_ _ | refine blk_drew ?_ | refine blk_alloc ?_ _)); refine blk_far ?_ NB177_199.out _; (with_reducible repeat (first | refine blk_drewN ?_ _ | refine blk_drew ?_ | refine blk_alloc ?_ _)); refine blk_far ?_ NB177_199.out _; (with_reducible repeat (first | refine blk_drewN ?_ _ | refine blk_drew ?_ | refine blk_alloc ?_ _)); refine blk_far ?_ NB177_199.out _; (with_reducible repeat (first | refine blk_drewN ?_ _ | refine blk_drew ?_ | refine blk_alloc ?_ _)); exact BK177.out) hb); have n1_ := Aside0.mk (blk_below (g := gb178) (o := .cells #[.int .u8 a2_0, .int .u8 a2_1, .int .u8 a2_2] 24 (0, 0)) (by (with_reducible repeat (first | refine blk_drewN ?_ _ | refine blk_drew ?_ | refine blk_alloc ?_ _)); refine blk_far ?_ NB178_199.out _; (with_reducible repeat (first | refine blk_drewN ?_ _ | refine blk_drew ?_ | refine blk_alloc ?_ _)); refine blk_far ?_ NB178_199.out _; (with_reducible repeat (first | refine blk_drewN ?_ _ | refine blk_drew ?_ | refine blk_alloc ?_ _)); refine blk_far ?_ NB178_199.out _; (with_reducible repeat (first | refine blk_drewN ?_ _ | refine blk_drew ?_ | refine blk_alloc ?_ _)); refine blk_far ?_ NB178_199.out _; (with_reducible repeat (first | refine blk_drewN ?_ _ | refine blk_drew ?_ | refine blk_alloc ?_ _)); refine blk_far ?_ NB178_199.out _; (with_reducible repeat (first | refine blk_drewN ?_ _ | refine blk_drew ?_ | refine blk_alloc ?_ _)); refine blk_far ?_ NB178_199.out _; (with_reducible repeat (first | refine blk_drewN ?_ _ | refine blk_drew ?_ | refine blk_alloc ?_ _)); refine blk_far ?_ NB178_199.out _; (with_reducible repeat (first | refine blk_drewN ?_ _ | refine blk_drew ?_ | refine blk_alloc ?_ _)); exact BK178.out) hb); have n2_ := Aside0.mk (blk_below (g := gb190) (o := .cells #[.int .i32 t182, .int .i32 t183, .int .i32 t184, .int .u8 t185, .int .u8 t186, .int .u8 t187, .int .u8 t188] 26 (0, 0)) (by (with_reducible repeat (first | refine blk_drewN ?_ _ | refine blk_drew ?_ | refine blk_alloc ?_ _)); refine blk_far ?_ NB190_199.out _; (with_reducible repeat (first | refine blk_drewN ?_ _ | refine blk_drew ?_ | refine blk_alloc ?_ _)); refine blk_far ?_ NB190_199.out _; (with_reducible repeat (first | refine blk_drewN ?_ _ | refine blk_drew ?_ | refine blk_alloc ?_ _)); refine blk_far ?_ NB190_199.out _; (with_reducible repeat (first | refine blk_drewN ?_ _ | refine blk_drew ?_ | refine blk_alloc ?_ _)); refine blk_far ?_ NB190_199.out _; (with_reducible repeat (first | refine blk_drewN ?_ _ | refine blk_drew ?_ | refine blk_alloc ?_ _)); refine blk_far ?_ NB190_199.out _; (with_reducible repeat (first | refine blk_drewN ?_ _ | refine blk_drew ?_ | refine blk_alloc ?_ _)); refine blk_far ?_ NB190_199.out _; (with_reducible repeat (first | refine blk_drewN ?_ _ | refine blk_drew ?_ | refine blk_alloc ?_ _)); refine blk_far ?_ NB190_199.out _; (with_reducible repeat (first | refine blk_drewN ?_ _ | refine blk_drew ?_ | refine blk_alloc ?_ _)); exact BK190.out) hb); have n3_ := Aside0.mk (blk_below (g := gb199) (o := .cells #[.int .i32 t191, .int .i32 t192, .int .i32 t193, .int .u8 t194, .int .u8 t195, .int .u8 t196, .int .u8 t197] 26 (0, 0)) (by (with_reducible repeat (first | refine blk_drewN ?_ _ | refine blk_drew ?_ | refine blk_alloc ?_ _)); refine blk_put (cs := #[.int .i32 t191, .int .i32 t192, .int .i32 t193, .int .u8 t194, .int .u8 t195, .int .u8 t196, .int .u8 0]) ?_ 6 _ rfl; (with_reducible repeat (first | refine blk_drewN ?_ _ | refine blk_drew ?_ | refine blk_alloc ?_ _)); refine blk_put (cs := #[.int .i32 t191, .int .i32 t192, .int .i32 t193, .int .u8 t194, .int .u8 t195, .int .u8 0, .int .u8 0]) ?_ 5 _ rfl; (with_reducible repeat (first | refine blk_drewN ?_ _ | refine blk_drew ?_ | refine blk_alloc ?_ _)); refine blk_put (cs := #[.int .i32 t191, .int .i32 t192, .int .i32 t193, .int .u8 t194, .int .u8 0, .int .u8 0, .int .u8 0]) ?_ 4 _ rfl; (with_reducible repeat (first | refine blk_drewN ?_ _ | refine blk_drew ?_ | refine blk_alloc ?_ _)); refine blk_put (cs := #[.int .i32 t191, .int .i32 t192, .int .i32 t193, .int .u8 0, .int .u8 0, .int .u8 0, .int .u8 0]) ?_ 3 _ rfl; (with_reducible repeat (first | refine blk_drewN ?_ _ | refine blk_drew ?_ | refine blk_alloc ?_ _)); refine blk_put (cs := #[.int .i32 t191, .int .i32 t192, .int .i32 0, .int .u8 0, .int .u8 0, .int .u8 0, .int .u8 0]) ?_ 2 _ rfl; (with_reducible repeat (first | refine blk_drewN ?_ _ | refine blk_drew ?_ | refine blk_alloc ?_ _)); refine blk_put (cs := #[.int .i32 t191, .int .i32 0, .int .i32 0, .int .u8 0, .int .u8 0, .int .u8 0, .int .u8 0]) ?_ 1 _ rfl; (with_reducible repeat (first | refine blk_drewN ?_ _ | refine blk_drew ?_ | refine blk_alloc ?_ _)); refine blk_put (cs := #[.int .i32 0, .int .i32 0, .int .i32 0, .int .u8 0, .int .u8 0, .int .u8 0, .int .u8 0]) ?_ 0 _ rfl; (with_reducible repeat (first | refine blk_drewN ?_ _ | refine blk_drew ?_ | refine blk_alloc ?_ _)); exact BK199.out) hb); have n4_ := Aside0.mk (below_step (by repeat (first | (with_reducible first | exact HB.out | apply below_alloc | apply pw_below_drewN | apply below_drew1 | refine below_set ?_ GE177.out | refine below_set ?_ GE178.out | refine below_set ?_ GE190.out | refine below_set ?_ GE199.out) | exact HB.out)) hb); clear BK177; clear BK178; clear BK190; clear BK199; clear HB; have BK177 := n0_; have BK178 := n1_; have BK190 := n2_; have BK199 := n3_; have HB := n4_; clear n0_ n1_ n2_ n3_ n4_; (try clear hb); (try clear hb2); (try clear hk); (try clear hi)))
              go_meet
              case rel => exact ⟨_, (true), (by first | rfl | (simp; done) | (simp [*]; done)), H', ⟨by have := HJ3.out; first | omega | exact Nat.le_refl _⟩, ⟨by (with_reducible repeat (first | refine blk_drewN ?_ _ | refine blk_drew ?_ | refine blk_alloc ?_ _)); exact BK177.out⟩, ⟨by (with_reducible repeat (first | refine blk_drewN ?_ _ | refine blk_drew ?_ | refine blk_alloc ?_ _)); exact BK178.out⟩, ⟨by (with_reducible repeat (first | refine blk_drewN ?_ _ | refine blk_drew ?_ | refine blk_alloc ?_ _)); exact BK190.out⟩, ⟨by (with_reducible repeat (first | refine blk_drewN ?_ _ | refine blk_drew ?_ | refine blk_alloc ?_ _)); exact BK199.out⟩, ⟨by repeat (first | (with_reducible first | exact HB.out | apply below_alloc | apply pw_below_drewN | apply below_drew1 | refine below_set ?_ GE177.out | refine below_set ?_ GE178.out | refine below_set ?_ GE190.out | refine below_set ?_ GE199.out) | exact HB.out)⟩⟩
        case rest =>
          clear HC23
          try clear c1
          try clear c2
          try clear p2
          try clear c3
          try clear c4
          try clear c5
          try clear c6
          try clear c7
          try clear c8
          try clear c9
          try clear c10
          try clear c11
          try clear c12
          try clear c13
          try clear c14
          try clear c15
          try clear c16
          try clear c18
          try clear c20
          try clear c24
          try clear c26
          try clear c28
          try clear c29
          try clear c34
          try clear c35
          try clear c36
          try clear c38
          try clear c40
          try clear c42
          try clear c45
          try clear c48
          try clear c51
          try clear c52
          try clear c53
          try clear c56
          try clear c57
          try clear c60
          try clear c71
          try clear c72
          try clear c73
          try clear c76
          try clear c77
          try clear c80
          try clear c87
          try clear c88
          try clear c89
          try clear c92
          try clear c93
          try clear c96
          try clear c100
          try clear c101
          try clear c102
          try clear c105
          try clear c106
          try clear c109
          try clear c110
          try clear c111
          try clear c115
          try clear c118
          try clear c121
          try clear c124
          try clear c125
          try clear c126
          try clear c129
          try clear c130
          try clear c134
          try clear c142
          try clear c143
          try clear c144
          try clear c147
          try clear c148
          try clear c152
          try clear c156
          try clear c157
          try clear c158
          try clear c161
          try clear c162
          try clear c166
          try clear c167
          try clear c168
          try clear hcz103_0
          try clear hcz103_1
          try clear hcz103_2
          try clear hcz103_3
          try clear hcz103_4
          try clear hcz103_5
          try clear hcz103_6
          try clear hcz107_0
          try clear hcz107_1
          try clear hcz107_2
          try clear hcz107_3
          try clear hcz107_4
          try clear hcz107_5
          try clear hcz107_6
          try clear hcz112_0
          try clear hcz112_1
          try clear hcz112_2
          try clear hcz112_3
          try clear hcz112_4
          try clear hcz112_5
          try clear hcz112_6
          try clear hcz11_0
          try clear hcz11_1
          try clear hcz11_2
          try clear hcz11_3
          try clear hcz11_4
          try clear hcz11_5
          try clear hcz11_6
          try clear hcz127_0
          try clear hcz127_1
          try clear hcz127_2
          try clear hcz127_3
          try clear hcz127_4
          try clear hcz127_5
          try clear hcz127_6
          try clear hcz131_0
          try clear hcz131_1
          try clear hcz131_2
          try clear hcz131_3
          try clear hcz131_4
          try clear hcz131_5
          try clear hcz131_6
          try clear hcz135_0
          try clear hcz135_1
          try clear hcz135_2
          try clear hcz138_0
          try clear hcz138_1
          try clear hcz138_2
          try clear hcz138_3
          try clear hcz138_4
          try clear hcz138_5
          try clear hcz138_6
          try clear hcz139_0
          try clear hcz139_1
          try clear hcz139_2
          try clear hcz13_0
          try clear hcz13_1
          try clear hcz13_2
          try clear hcz145_0
          try clear hcz145_1
          try clear hcz145_2
          try clear hcz145_3
          try clear hcz145_4
          try clear hcz145_5
          try clear hcz145_6
          try clear hcz149_0
          try clear hcz149_1
          try clear hcz149_2
          try clear hcz149_3
          try clear hcz149_4
          try clear hcz149_5
          try clear hcz149_6
          try clear hcz153_0
          try clear hcz153_1
          try clear hcz153_2
          try clear hcz159_0
          try clear hcz159_1
          try clear hcz159_2
          try clear hcz159_3
          try clear hcz159_4
          try clear hcz159_5
          try clear hcz159_6
          try clear hcz163_0
          try clear hcz163_1
          try clear hcz163_2
          try clear hcz163_3
          try clear hcz163_4
          try clear hcz163_5
          try clear hcz163_6
          try clear hcz169_0
          try clear hcz169_1
          try clear hcz169_2
          try clear hcz169_3
          try clear hcz169_4
          try clear hcz169_5
          try clear hcz169_6
          try clear hcz16_0
          try clear hcz16_1
          try clear hcz16_2
          try clear hcz16_3
          try clear hcz16_4
          try clear hcz16_5
          try clear hcz16_6
          try clear hcz25_0
          try clear hcz25_1
          try clear hcz25_2
          try clear hcz30_0
          try clear hcz30_1
          try clear hcz30_2
          try clear hcz30_3
          try clear hcz30_4
          try clear hcz30_5
          try clear hcz30_6
          try clear hcz31_0
          try clear hcz31_1
          try clear hcz31_2
          try clear hcz31_3
          try clear hcz31_4
          try clear hcz31_5
          try clear hcz31_6
          try clear hcz37_0
          try clear hcz37_1
          try clear hcz37_2
          try clear hcz37_3
          try clear hcz37_4
          try clear hcz37_5
          try clear hcz37_6
          try clear hcz54_0
          try clear hcz54_1
          try clear hcz54_2
          try clear hcz54_3
          try clear hcz54_4
          try clear hcz54_5
          try clear hcz54_6
          try clear hcz58_0
          try clear hcz58_1
          try clear hcz58_2
          try clear hcz58_3
          try clear hcz58_4
          try clear hcz58_5
          try clear hcz58_6
          try clear hcz61_0
          try clear hcz61_1
          try clear hcz61_2
          try clear hcz61_3
          try clear hcz61_4
          try clear hcz61_5
          try clear hcz61_6
          try clear hcz64_0
          try clear hcz64_1
          try clear hcz64_2
          try clear hcz67_0
          try clear hcz67_1
          try clear hcz67_2
          try clear hcz67_3
          try clear hcz67_4
          try clear hcz67_5
          try clear hcz67_6
          try clear hcz68_0
          try clear hcz68_1
          try clear hcz68_2
          try clear hcz74_0
          try clear hcz74_1
          try clear hcz74_2
          try clear hcz74_3
          try clear hcz74_4
          try clear hcz74_5
          try clear hcz74_6
          try clear hcz78_0
          try clear hcz78_1
          try clear hcz78_2
          try clear hcz78_3
          try clear hcz78_4
          try clear hcz78_5
          try clear hcz78_6
          try clear hcz81_0
          try clear hcz81_1
          try clear hcz81_2
          try clear hcz81_3
          try clear hcz81_4
          try clear hcz81_5
          try clear hcz81_6
          try clear hcz84_0
          try clear hcz84_1
          try clear hcz84_2
          try clear hcz90_0
          try clear hcz90_1
          try clear hcz90_2
          try clear hcz90_3
          try clear hcz90_4
          try clear hcz90_5
          try clear hcz90_6
          try clear hcz94_0
          try clear hcz94_1
          try clear hcz94_2
          try clear hcz94_3
          try clear hcz94_4
          try clear hcz94_5
          try clear hcz94_6
          try clear hcz97_0
          try clear hcz97_1
          try clear hcz97_2
          try clear hcz97_3
          try clear hcz97_4
          try clear hcz97_5
          try clear hcz97_6
          try clear hfz103_0
          try clear hfz103_1
          try clear hfz103_2
          try clear hfz103_3
          try clear hfz103_4
          try clear hfz103_5
          try clear hfz103_6
          try clear hfz107_0
          try clear hfz107_1
          try clear hfz107_2
          try clear hfz107_3
          try clear hfz107_4
          try clear hfz107_5
          try clear hfz107_6
          try clear hfz112_0
          try clear hfz112_1
          try clear hfz112_2
          try clear hfz112_3
          try clear hfz112_4
          try clear hfz112_5
          try clear hfz112_6
          try clear hfz11_0
          try clear hfz11_1
          try clear hfz11_2
          try clear hfz11_3
          try clear hfz11_4
          try clear hfz11_5
          try clear hfz11_6
          try clear hfz127_0
          try clear hfz127_1
          try clear hfz127_2
          try clear hfz127_3
          try clear hfz127_4
          try clear hfz127_5
          try clear hfz127_6
          try clear hfz131_0
          try clear hfz131_1
          try clear hfz131_2
          try clear hfz131_3
          try clear hfz131_4
          try clear hfz131_5
          try clear hfz131_6
          try clear hfz135_0
          try clear hfz135_1
          try clear hfz135_2
          try clear hfz138_0
          try clear hfz138_1
          try clear hfz138_2
          try clear hfz138_3
          try clear hfz138_4
          try clear hfz138_5
          try clear hfz138_6
          try clear hfz139_0
          try clear hfz139_1
          try clear hfz139_2
          try clear hfz13_0
          try clear hfz13_1
          try clear hfz13_2
          try clear hfz145_0
          try clear hfz145_1
          try clear hfz145_2
          try clear hfz145_3
          try clear hfz145_4
          try clear hfz145_5
          try clear hfz145_6
          try clear hfz149_0
          try clear hfz149_1
          try clear hfz149_2
          try clear hfz149_3
          try clear hfz149_4
          try clear hfz149_5
          try clear hfz149_6
          try clear hfz153_0
          try clear hfz153_1
          try clear hfz153_2
          try clear hfz159_0
          try clear hfz159_1
          try clear hfz159_2
          try clear hfz159_3
          try clear hfz159_4
          try clear hfz159_5
          try clear hfz159_6
          try clear hfz163_0
          try clear hfz163_1
          try clear hfz163_2
          try clear hfz163_3
          try clear hfz163_4
          try clear hfz163_5
          try clear hfz163_6
          try clear hfz169_0
          try clear hfz169_1
          try clear hfz169_2
          try clear hfz169_3
          try clear hfz169_4
          try clear hfz169_5
          try clear hfz169_6
          try clear hfz16_0
          try clear hfz16_1
          try clear hfz16_2
          try clear hfz16_3
          try clear hfz16_4
          try clear hfz16_5
          try clear hfz16_6
          try clear hfz25_0
          try clear hfz25_1
          try clear hfz25_2
          try clear hfz30_0
          try clear hfz30_1
          try clear hfz30_2
          try clear hfz30_3
          try clear hfz30_4
          try clear hfz30_5
          try clear hfz30_6
          try clear hfz31_0
          try clear hfz31_1
          try clear hfz31_2
          try clear hfz31_3
          try clear hfz31_4
          try clear hfz31_5
          try clear hfz31_6
          try clear hfz37_0
          try clear hfz37_1
          try clear hfz37_2
          try clear hfz37_3
          try clear hfz37_4
          try clear hfz37_5
          try clear hfz37_6
          try clear hfz54_0
          try clear hfz54_1
          try clear hfz54_2
          try clear hfz54_3
          try clear hfz54_4
          try clear hfz54_5
          try clear hfz54_6
          try clear hfz58_0
          try clear hfz58_1
          try clear hfz58_2
          try clear hfz58_3
          try clear hfz58_4
          try clear hfz58_5
          try clear hfz58_6
          try clear hfz61_0
          try clear hfz61_1
          try clear hfz61_2
          try clear hfz61_3
          try clear hfz61_4
          try clear hfz61_5
          try clear hfz61_6
          try clear hfz64_0
          try clear hfz64_1
          try clear hfz64_2
          try clear hfz67_0
          try clear hfz67_1
          try clear hfz67_2
          try clear hfz67_3
          try clear hfz67_4
          try clear hfz67_5
          try clear hfz67_6
          try clear hfz68_0
          try clear hfz68_1
          try clear hfz68_2
          try clear hfz74_0
          try clear hfz74_1
          try clear hfz74_2
          try clear hfz74_3
          try clear hfz74_4
          try clear hfz74_5
          try clear hfz74_6
          try clear hfz78_0
          try clear hfz78_1
          try clear hfz78_2
          try clear hfz78_3
          try clear hfz78_4
          try clear hfz78_5
          try clear hfz78_6
          try clear hfz81_0
          try clear hfz81_1
          try clear hfz81_2
          try clear hfz81_3
          try clear hfz81_4
          try clear hfz81_5
          try clear hfz81_6
          try clear hfz84_0
          try clear hfz84_1
          try clear hfz84_2
          try clear hfz90_0
          try clear hfz90_1
          try clear hfz90_2
          try clear hfz90_3
          try clear hfz90_4
          try clear hfz90_5
          try clear hfz90_6
          try clear hfz94_0
          try clear hfz94_1
          try clear hfz94_2
          try clear hfz94_3
          try clear hfz94_4
          try clear hfz94_5
          try clear hfz94_6
          try clear hfz97_0
          try clear hfz97_1
          try clear hfz97_2
          try clear hfz97_3
          try clear hfz97_4
          try clear hfz97_5
          try clear hfz97_6
          try clear p2
          obtain ⟨kq, x62_22, rfl, HA, HJ22, BK177, BK178, BK190, BK199, HB⟩ := hcut
          cases kq with
          | zero => exact absurd HA.out (by simp [prolepsislaw05_CellStays.j1])
          | succ kj22 =>
            have H := HA.out
            clear HA
            simp only [prolepsislaw05_CellStays.j1] at H
            by_cases c171 : x62_22 = true
            · subst c171
              have H1 : (some false) = some r := by rw [if_pos rfl] at H; exact H
              rw [HRT.out] at H1; cases H1
            · replace c171 := Bool.eq_false_iff.mpr c171
              subst c171
              have H1 : ((cell_Runes.f a0_0 a0_1 a0_2 a0_3 a0_4 a0_5 a0_6).bind fun t251 => (if a0_3 = 0 then ((prolepsislaw05_known.f).bind fun t254 => (if t254 = true then (some ((t251.length : Int) == 0)) else (some false))) else ((prolepsislaw05_known.f).bind fun t255 => (if t255 = true then ((width_Total.f kj22 t251).bind fun t256 => (if t256 = (wrap64 (a0_3)) then ((width_Clusters.f kj22 t251).bind fun t257 => (some ((t257.length : Int) == 1))) else (some false))) else (some false))))) = some r := by rw [if_neg (show ¬ (false = true) by decide)] at H; exact H
              clear H
              have H := H1
              clear H1
              replace H := Option.bind_eq_some_iff.mp H
              obtain ⟨t251, A1720, H⟩ := H
              replace H : (if a0_3 = 0 then ((prolepsislaw05_known.f).bind fun t254 => (if t254 = true then (some ((t251.length : Int) == 0)) else (some false))) else ((prolepsislaw05_known.f).bind fun t255 => (if t255 = true then ((width_Total.f kj22 t251).bind fun t256 => (if t256 = (wrap64 (a0_3)) then ((width_Clusters.f kj22 t251).bind fun t257 => (some ((t257.length : Int) == 1))) else (some false))) else (some false)))) = some r := H
              have A172 := Aside0.mk A1720
              clear A1720
              by_cases c173 : a0_3 = 0
              · rw [if_pos c173] at H
                have c173b0 : (a0_3 == 0) = true := beq_iff_eq.mpr c173
                have c173b1 : (a0_3 != 0) = false := bne_eq_false_iff_eq.mpr c173
                clear c173
                replace H := Option.bind_eq_some_iff.mp H
                obtain ⟨t254, A1740, H⟩ := H
                replace H : (if t254 = true then (some ((t251.length : Int) == 0)) else (some false)) = some r := H
                have A174 := Aside0.mk A1740
                clear A1740
                by_cases c175 : t254 = true
                · subst c175
                  have H1 : (some ((t251.length : Int) == 0)) = some r := by rw [if_pos rfl] at H; exact H
                  clear H
                  have H := H1
                  clear H1
                  obtain rfl := Option.some.inj H
                  have hnb176 := NB177_178.out
                  have hnc176 := NB178_177.out
                  have hnb177 := NB177_190.out
                  have hnc177 := NB190_177.out
                  have hnb178 := NB177_199.out
                  have hnc178 := NB199_177.out
                  have hcz179_0 : wc.cell? ⟨gb177, 0, none⟩ = some (.int .i32 a0_0) := (blk_cell BK177.out 0).trans rfl
                  have hcz179_1 : wc.cell? ⟨gb177, 1, none⟩ = some (.int .i32 a0_1) := (blk_cell BK177.out 1).trans rfl
                  have hcz179_2 : wc.cell? ⟨gb177, 2, none⟩ = some (.int .i32 a0_2) := (blk_cell BK177.out 2).trans rfl
                  have hcz179_3 : wc.cell? ⟨gb177, 3, none⟩ = some (.int .u8 a0_3) := (blk_cell BK177.out 3).trans rfl
                  have hcz179_4 : wc.cell? ⟨gb177, 4, none⟩ = some (.int .u8 a0_4) := (blk_cell BK177.out 4).trans rfl
                  have hcz179_5 : wc.cell? ⟨gb177, 5, none⟩ = some (.int .u8 a0_5) := (blk_cell BK177.out 5).trans rfl
                  have hcz179_6 : wc.cell? ⟨gb177, 6, none⟩ = some (.int .u8 a0_6) := (blk_cell BK177.out 6).trans rfl
                  have hfz179_0 := blk_frozen BK177.out 0
                  have hfz179_1 := blk_frozen BK177.out 1
                  have hfz179_2 := blk_frozen BK177.out 2
                  have hfz179_3 := blk_frozen BK177.out 3
                  have hfz179_4 := blk_frozen BK177.out 4
                  have hfz179_5 := blk_frozen BK177.out 5
                  have hfz179_6 := blk_frozen BK177.out 6
                  go_wp2_with (first | ((with_reducible refine gate_callee (f := 30) rfl ?_); refine goesL_ (some 64) rfl rfl Try.func30 (by kernel_rfl) rfl #[.agg #[.int .i32 a0_0, .int .i32 a0_1, .int .i32 a0_2, .int .u8 a0_3, .int .u8 a0_4, .int .u8 a0_5, .int .u8 a0_6]] rfl (by (try simp only [List.map_toArray, List.map_cons, List.map_nil]); first | done | rfl | (simp only [List.length_drop, List.length_take]; rfl)) ?_; (with_reducible refine (cell_Runes.calls a0_0 a0_1 a0_2 a0_3 a0_4 a0_5 a0_6 t251 _ A172.out).mono ?_); rintro e w180 ⟨v252, rfl, ho0, hb⟩; refine ⟨_, rfl, ?_⟩; have n0_ := Aside0.mk (Kd.R_lower ho0 (below_size (by repeat (first | (with_reducible first | exact HB.out | apply below_alloc | apply pw_below_drewN | apply below_drew1 | refine below_set ?_ GE177.out | refine below_set ?_ GE178.out | refine below_set ?_ GE190.out | refine below_set ?_ GE199.out) | exact HB.out)))); have n1_ := Aside0.mk (blk_below (g := gb177) (o := .cells #[.int .i32 a0_0, .int .i32 a0_1, .int .i32 a0_2, .int .u8 a0_3, .int .u8 a0_4, .int .u8 a0_5, .int .u8 a0_6] 26 (0, 0)) (by (with_reducible repeat (first | refine blk_drewN ?_ _ | refine blk_drew ?_ | refine blk_alloc ?_ _)); exact BK177.out) hb); have n2_ := Aside0.mk (blk_below (g := gb178) (o := .cells #[.int .u8 a2_0, .int .u8 a2_1, .int .u8 a2_2] 24 (0, 0)) (by (with_reducible repeat (first | refine blk_drewN ?_ _ | refine blk_drew ?_ | refine blk_alloc ?_ _)); exact BK178.out) hb); have n3_ := Aside0.mk (blk_below (g := gb190) (o := .cells #[.int .i32 t182, .int .i32 t183, .int .i32 t184, .int .u8 t185, .int .u8 t186, .int .u8 t187, .int .u8 t188] 26 (0, 0)) (by (with_reducible repeat (first | refine blk_drewN ?_ _ | refine blk_drew ?_ | refine blk_alloc ?_ _)); exact BK190.out) hb); have n4_ := Aside0.mk (blk_below (g := gb199) (o := .cells #[.int .i32 t191, .int .i32 t192, .int .i32 t193, .int .u8 t194, .int .u8 t195, .int .u8 t196, .int .u8 t197] 26 (0, 0)) (by (with_reducible repeat (first | refine blk_drewN ?_ _ | refine blk_drew ?_ | refine blk_alloc ?_ _)); exact BK199.out) hb); have n5_ := Aside0.mk (below_step (by repeat (first | (with_reducible first | exact HB.out | apply below_alloc | apply pw_below_drewN | apply below_drew1 | refine below_set ?_ GE177.out | refine below_set ?_ GE178.out | refine below_set ?_ GE190.out | refine below_set ?_ GE199.out) | exact HB.out)) hb); clear BK177; clear BK178; clear BK190; clear BK199; clear HB; have HO253 := n0_; have BK177 := n1_; have BK178 := n2_; have BK190 := n3_; have BK199 := n4_; have HB := n5_; clear n0_ n1_ n2_ n3_ n4_ n5_; (try clear hb); (try clear hb2); (try clear hk); (try clear hi); (try clear ho0); have hcz181_0 : w180.cell? ⟨gb177, 0, none⟩ = some (.int .i32 a0_0) := (blk_cell BK177.out 0).trans rfl; have hcz181_1 : w180.cell? ⟨gb177, 1, none⟩ = some (.int .i32 a0_1) := (blk_cell BK177.out 1).trans rfl; have hcz181_2 : w180.cell? ⟨gb177, 2, none⟩ = some (.int .i32 a0_2) := (blk_cell BK177.out 2).trans rfl; have hcz181_3 : w180.cell? ⟨gb177, 3, none⟩ = some (.int .u8 a0_3) := (blk_cell BK177.out 3).trans rfl; have hcz181_4 : w180.cell? ⟨gb177, 4, none⟩ = some (.int .u8 a0_4) := (blk_cell BK177.out 4).trans rfl; have hcz181_5 : w180.cell? ⟨gb177, 5, none⟩ = some (.int .u8 a0_5) := (blk_cell BK177.out 5).trans rfl; have hcz181_6 : w180.cell? ⟨gb177, 6, none⟩ = some (.int .u8 a0_6) := (blk_cell BK177.out 6).trans rfl; have hfz181_0 := blk_frozen BK177.out 0; have hfz181_1 := blk_frozen BK177.out 1; have hfz181_2 := blk_frozen BK177.out 2; have hfz181_3 := blk_frozen BK177.out 3; have hfz181_4 := blk_frozen BK177.out 4; have hfz181_5 := blk_frozen BK177.out 5; have hfz181_6 := blk_frozen BK177.out 6) | ((with_reducible refine gate_callee (f := 20) rfl ?_); refine goesL_ (some 68) rfl rfl Try.func20 (by kernel_rfl) rfl #[] rfl (by (try simp only [List.map_toArray, List.map_cons, List.map_nil]); first | done | rfl | (simp only [List.length_drop, List.length_take]; rfl)) ?_; (with_reducible refine (prolepsislaw05_known.calls  true _ A174.out).mono ?_); rintro e w182 ⟨rfl, hb⟩; refine ⟨_, rfl, ?_⟩; have n0_ := Aside0.mk (Kd.R_below (by (with_reducible repeat (first | apply Kd.R_alloc | apply Kd.R_drewN | apply Kd.R_drew)); exact HO253.out) hb); have n1_ := Aside0.mk (blk_below (g := gb177) (o := .cells #[.int .i32 a0_0, .int .i32 a0_1, .int .i32 a0_2, .int .u8 a0_3, .int .u8 a0_4, .int .u8 a0_5, .int .u8 a0_6] 26 (0, 0)) (by (with_reducible repeat (first | refine blk_drewN ?_ _ | refine blk_drew ?_ | refine blk_alloc ?_ _)); exact BK177.out) hb); have n2_ := Aside0.mk (blk_below (g := gb178) (o := .cells #[.int .u8 a2_0, .int .u8 a2_1, .int .u8 a2_2] 24 (0, 0)) (by (with_reducible repeat (first | refine blk_drewN ?_ _ | refine blk_drew ?_ | refine blk_alloc ?_ _)); exact BK178.out) hb); have n3_ := Aside0.mk (blk_below (g := gb190) (o := .cells #[.int .i32 t182, .int .i32 t183, .int .i32 t184, .int .u8 t185, .int .u8 t186, .int .u8 t187, .int .u8 t188] 26 (0, 0)) (by (with_reducible repeat (first | refine blk_drewN ?_ _ | refine blk_drew ?_ | refine blk_alloc ?_ _)); exact BK190.out) hb); have n4_ := Aside0.mk (blk_below (g := gb199) (o := .cells #[.int .i32 t191, .int .i32 t192, .int .i32 t193, .int .u8 t194, .int .u8 t195, .int .u8 t196, .int .u8 t197] 26 (0, 0)) (by (with_reducible repeat (first | refine blk_drewN ?_ _ | refine blk_drew ?_ | refine blk_alloc ?_ _)); exact BK199.out) hb); have n5_ := Aside0.mk (below_step (by repeat (first | (with_reducible first | exact HB.out | apply below_alloc | apply pw_below_drewN | apply below_drew1 | refine below_set ?_ GE177.out | refine below_set ?_ GE178.out | refine below_set ?_ GE190.out | refine below_set ?_ GE199.out) | exact HB.out)) hb); clear HO253; clear BK177; clear BK178; clear BK190; clear BK199; clear HB; have HO253 := n0_; have BK177 := n1_; have BK178 := n2_; have BK190 := n3_; have BK199 := n4_; have HB := n5_; clear n0_ n1_ n2_ n3_ n4_ n5_; (try clear hb); (try clear hb2); (try clear hk); (try clear hi); obtain ⟨Ao183, co183, eo183⟩ := Kd.R_slice HO253.out; subst eo183))
                  go_ret
                  exact ⟨by first | rfl | (simp [errW_none, errW_some] <;> rfl) | (simp [*, errW_none, errW_some] <;> rfl), by repeat (first | (with_reducible first | exact HB.out | apply below_alloc | apply pw_below_drewN | apply below_drew1 | refine below_set ?_ GE177.out | refine below_set ?_ GE178.out | refine below_set ?_ GE190.out | refine below_set ?_ GE199.out) | exact HB.out)⟩
                · replace c175 := Bool.eq_false_iff.mpr c175
                  subst c175
                  have H1 : (some false) = some r := by rw [if_neg (show ¬ (false = true) by decide)] at H; exact H
                  rw [HRT.out] at H1; cases H1
              · rw [if_neg c173] at H
                have c173b0 : (a0_3 == 0) = false := beq_eq_false_iff_ne.mpr c173
                have c173b1 : (a0_3 != 0) = true := bne_iff_ne.mpr c173
                replace H := Option.bind_eq_some_iff.mp H
                obtain ⟨t255, A1910, H⟩ := H
                replace H : (if t255 = true then ((width_Total.f kj22 t251).bind fun t256 => (if t256 = (wrap64 (a0_3)) then ((width_Clusters.f kj22 t251).bind fun t257 => (some ((t257.length : Int) == 1))) else (some false))) else (some false)) = some r := H
                have A191 := Aside0.mk A1910
                clear A1910
                by_cases c192 : t255 = true
                · subst c192
                  have H1 : ((width_Total.f kj22 t251).bind fun t256 => (if t256 = (wrap64 (a0_3)) then ((width_Clusters.f kj22 t251).bind fun t257 => (some ((t257.length : Int) == 1))) else (some false))) = some r := by rw [if_pos rfl] at H; exact H
                  clear H
                  have H := H1
                  clear H1
                  replace H := Option.bind_eq_some_iff.mp H
                  obtain ⟨t256, A1930, H⟩ := H
                  replace H : (if t256 = (wrap64 (a0_3)) then ((width_Clusters.f kj22 t251).bind fun t257 => (some ((t257.length : Int) == 1))) else (some false)) = some r := H
                  have A193 := Aside0.mk A1930
                  clear A1930
                  by_cases c194 : t256 = (wrap64 (a0_3))
                  · rw [if_pos c194] at H
                    have c194b0 : (t256 == (wrap64 (a0_3))) = true := beq_iff_eq.mpr c194
                    have c194b1 : (t256 != (wrap64 (a0_3))) = false := bne_eq_false_iff_eq.mpr c194
                    clear c194
                    replace H := Option.bind_eq_some_iff.mp H
                    obtain ⟨t257, A1950, H⟩ := H
                    replace H : (some ((t257.length : Int) == 1)) = some r := H
                    have A195 := Aside0.mk A1950
                    clear A1950
                    obtain rfl := Option.some.inj H
                    have hnb196 := NB177_178.out
                    have hnc196 := NB178_177.out
                    have hnb197 := NB177_190.out
                    have hnc197 := NB190_177.out
                    have hnb198 := NB177_199.out
                    have hnc198 := NB199_177.out
                    have hcz199_0 : wc.cell? ⟨gb177, 0, none⟩ = some (.int .i32 a0_0) := (blk_cell BK177.out 0).trans rfl
                    have hcz199_1 : wc.cell? ⟨gb177, 1, none⟩ = some (.int .i32 a0_1) := (blk_cell BK177.out 1).trans rfl
                    have hcz199_2 : wc.cell? ⟨gb177, 2, none⟩ = some (.int .i32 a0_2) := (blk_cell BK177.out 2).trans rfl
                    have hcz199_3 : wc.cell? ⟨gb177, 3, none⟩ = some (.int .u8 a0_3) := (blk_cell BK177.out 3).trans rfl
                    have hcz199_4 : wc.cell? ⟨gb177, 4, none⟩ = some (.int .u8 a0_4) := (blk_cell BK177.out 4).trans rfl
                    have hcz199_5 : wc.cell? ⟨gb177, 5, none⟩ = some (.int .u8 a0_5) := (blk_cell BK177.out 5).trans rfl
                    have hcz199_6 : wc.cell? ⟨gb177, 6, none⟩ = some (.int .u8 a0_6) := (blk_cell BK177.out 6).trans rfl
                    have hfz199_0 := blk_frozen BK177.out 0
                    have hfz199_1 := blk_frozen BK177.out 1
                    have hfz199_2 := blk_frozen BK177.out 2
                    have hfz199_3 := blk_frozen BK177.out 3
                    have hfz199_4 := blk_frozen BK177.out 4
                    have hfz199_5 := blk_frozen BK177.out 5
                    have hfz199_6 := blk_frozen BK177.out 6
                    try go_wp2_with (first | ((with_reducible refine gate_callee (f := 30) rfl ?_); refine goesL_ (some 64) rfl rfl Try.func30 (by kernel_rfl) rfl #[.agg #[.int .i32 a0_0, .int .i32 a0_1, .int .i32 a0_2, .int .u8 a0_3, .int .u8 a0_4, .int .u8 a0_5, .int .u8 a0_6]] rfl (by (try simp only [List.map_toArray, List.map_cons, List.map_nil]); first | done | rfl | (simp only [List.length_drop, List.length_take]; rfl)) ?_; (with_reducible refine (cell_Runes.calls a0_0 a0_1 a0_2 a0_3 a0_4 a0_5 a0_6 t251 _ A172.out).mono ?_); rintro e w200 ⟨v252, rfl, ho0, hb⟩; refine ⟨_, rfl, ?_⟩; have n0_ := Aside0.mk (Kd.R_lower ho0 (below_size (by repeat (first | (with_reducible first | exact HB.out | apply below_alloc | apply pw_below_drewN | apply below_drew1 | refine below_set ?_ GE177.out | refine below_set ?_ GE178.out | refine below_set ?_ GE190.out | refine below_set ?_ GE199.out) | exact HB.out)))); have n1_ := Aside0.mk (blk_below (g := gb177) (o := .cells #[.int .i32 a0_0, .int .i32 a0_1, .int .i32 a0_2, .int .u8 a0_3, .int .u8 a0_4, .int .u8 a0_5, .int .u8 a0_6] 26 (0, 0)) (by (with_reducible repeat (first | refine blk_drewN ?_ _ | refine blk_drew ?_ | refine blk_alloc ?_ _)); exact BK177.out) hb); have n2_ := Aside0.mk (blk_below (g := gb178) (o := .cells #[.int .u8 a2_0, .int .u8 a2_1, .int .u8 a2_2] 24 (0, 0)) (by (with_reducible repeat (first | refine blk_drewN ?_ _ | refine blk_drew ?_ | refine blk_alloc ?_ _)); exact BK178.out) hb); have n3_ := Aside0.mk (blk_below (g := gb190) (o := .cells #[.int .i32 t182, .int .i32 t183, .int .i32 t184, .int .u8 t185, .int .u8 t186, .int .u8 t187, .int .u8 t188] 26 (0, 0)) (by (with_reducible repeat (first | refine blk_drewN ?_ _ | refine blk_drew ?_ | refine blk_alloc ?_ _)); exact BK190.out) hb); have n4_ := Aside0.mk (blk_below (g := gb199) (o := .cells #[.int .i32 t191, .int .i32 t192, .int .i32 t193, .int .u8 t194, .int .u8 t195, .int .u8 t196, .int .u8 t197] 26 (0, 0)) (by (with_reducible repeat (first | refine blk_drewN ?_ _ | refine blk_drew ?_ | refine blk_alloc ?_ _)); exact BK199.out) hb); have n5_ := Aside0.mk (below_step (by repeat (first | (with_reducible first | exact HB.out | apply below_alloc | apply pw_below_drewN | apply below_drew1 | refine below_set ?_ GE177.out | refine below_set ?_ GE178.out | refine below_set ?_ GE190.out | refine below_set ?_ GE199.out) | exact HB.out)) hb); clear BK177; clear BK178; clear BK190; clear BK199; clear HB; have HO253 := n0_; have BK177 := n1_; have BK178 := n2_; have BK190 := n3_; have BK199 := n4_; have HB := n5_; clear n0_ n1_ n2_ n3_ n4_ n5_; (try clear hb); (try clear hb2); (try clear hk); (try clear hi); (try clear ho0); have hcz201_0 : w200.cell? ⟨gb177, 0, none⟩ = some (.int .i32 a0_0) := (blk_cell BK177.out 0).trans rfl; have hcz201_1 : w200.cell? ⟨gb177, 1, none⟩ = some (.int .i32 a0_1) := (blk_cell BK177.out 1).trans rfl; have hcz201_2 : w200.cell? ⟨gb177, 2, none⟩ = some (.int .i32 a0_2) := (blk_cell BK177.out 2).trans rfl; have hcz201_3 : w200.cell? ⟨gb177, 3, none⟩ = some (.int .u8 a0_3) := (blk_cell BK177.out 3).trans rfl; have hcz201_4 : w200.cell? ⟨gb177, 4, none⟩ = some (.int .u8 a0_4) := (blk_cell BK177.out 4).trans rfl; have hcz201_5 : w200.cell? ⟨gb177, 5, none⟩ = some (.int .u8 a0_5) := (blk_cell BK177.out 5).trans rfl; have hcz201_6 : w200.cell? ⟨gb177, 6, none⟩ = some (.int .u8 a0_6) := (blk_cell BK177.out 6).trans rfl; have hfz201_0 := blk_frozen BK177.out 0; have hfz201_1 := blk_frozen BK177.out 1; have hfz201_2 := blk_frozen BK177.out 2; have hfz201_3 := blk_frozen BK177.out 3; have hfz201_4 := blk_frozen BK177.out 4; have hfz201_5 := blk_frozen BK177.out 5; have hfz201_6 := blk_frozen BK177.out 6))
                    have n0_ := Aside0.mk (Kd.R_drew HO253.out)
                    have n1_ := Aside0.mk (blk_drew BK177.out)
                    have n2_ := Aside0.mk (blk_drew BK178.out)
                    have n3_ := Aside0.mk (blk_drew BK190.out)
                    have n4_ := Aside0.mk (blk_drew BK199.out)
                    have n5_ := Aside0.mk (below_drew1 HB.out)
                    clear HO253
                    clear BK177
                    clear BK178
                    clear BK190
                    clear BK199
                    clear HB
                    have HO253 := n0_
                    have BK177 := n1_
                    have BK178 := n2_
                    have BK190 := n3_
                    have BK199 := n4_
                    have HB := n5_
                    clear n0_ n1_ n2_ n3_ n4_ n5_
                    refine start_ (n := 16) (S := fun w' => w'.cell? ⟨gb177, 0, none⟩ = some (.int .i32 a0_0) ∧ w'.cell? ⟨gb177, 1, none⟩ = some (.int .i32 a0_1) ∧ w'.cell? ⟨gb177, 2, none⟩ = some (.int .i32 a0_2) ∧ w'.cell? ⟨gb177, 3, none⟩ = some (.int .u8 a0_3) ∧ w'.cell? ⟨gb177, 4, none⟩ = some (.int .u8 a0_4) ∧ w'.cell? ⟨gb177, 5, none⟩ = some (.int .u8 a0_5) ∧ w'.cell? ⟨gb177, 6, none⟩ = some (.int .u8 a0_6)) (ds := []) #[false, false, false, false, false, false, false, false, false, false, false, false, false, false, false, false] (by kernel_rfl) rfl rfl ⟨(blk_cell BK177.out 0).trans rfl, (blk_cell BK177.out 1).trans rfl, (blk_cell BK177.out 2).trans rfl, (blk_cell BK177.out 3).trans rfl, (blk_cell BK177.out 4).trans rfl, (blk_cell BK177.out 5).trans rfl, (blk_cell BK177.out 6).trans rfl⟩ (fun hHeld => ?_); refine with_tabW prolepsislaw05_CellStays.tab10 prolepsislaw05_CellStays.bits10 (fun HT_ HW_ => ?_)
                    generalize w200.drew = w202 at HO253 BK177 BK178 BK190 BK199 HB hHeld ⊢
                    refine one_ (i := 0) (N := some 74) #[true, false, false, false, false, false, false, false, false, false, false, false, false, false, false, false] rfl rfl (one_of HT_.out (by kernel_rfl)) (by decide) (fun K hK => ?_)
                    refine goes_ Try.func20 (by kernel_rfl) rfl #[] (by rfl) rfl rfl (by (try simp only [List.map_toArray, List.map_cons, List.map_nil]); first | done | rfl | (simp only [List.length_drop, List.length_take]; rfl)) ?_
                    with_reducible refine (prolepsislaw05_known.calls  true _ A191.out).mono ?_
                    rintro e w203 ⟨rfl, hb⟩
                    refine ⟨_, rfl, ?_⟩
                    have n0_ := Aside0.mk (Kd.R_below (by (with_reducible repeat (first | apply Kd.R_alloc | apply Kd.R_drewN | apply Kd.R_drew)); exact HO253.out) hb)
                    have n1_ := Aside0.mk (blk_below (g := gb177) (o := .cells #[.int .i32 a0_0, .int .i32 a0_1, .int .i32 a0_2, .int .u8 a0_3, .int .u8 a0_4, .int .u8 a0_5, .int .u8 a0_6] 26 (0, 0)) (by (with_reducible repeat (first | refine blk_drewN ?_ _ | refine blk_drew ?_ | refine blk_alloc ?_ _)); exact BK177.out) hb)
                    have n2_ := Aside0.mk (blk_below (g := gb178) (o := .cells #[.int .u8 a2_0, .int .u8 a2_1, .int .u8 a2_2] 24 (0, 0)) (by (with_reducible repeat (first | refine blk_drewN ?_ _ | refine blk_drew ?_ | refine blk_alloc ?_ _)); exact BK178.out) hb)
                    have n3_ := Aside0.mk (blk_below (g := gb190) (o := .cells #[.int .i32 t182, .int .i32 t183, .int .i32 t184, .int .u8 t185, .int .u8 t186, .int .u8 t187, .int .u8 t188] 26 (0, 0)) (by (with_reducible repeat (first | refine blk_drewN ?_ _ | refine blk_drew ?_ | refine blk_alloc ?_ _)); exact BK190.out) hb)
                    have n4_ := Aside0.mk (blk_below (g := gb199) (o := .cells #[.int .i32 t191, .int .i32 t192, .int .i32 t193, .int .u8 t194, .int .u8 t195, .int .u8 t196, .int .u8 t197] 26 (0, 0)) (by (with_reducible repeat (first | refine blk_drewN ?_ _ | refine blk_drew ?_ | refine blk_alloc ?_ _)); exact BK199.out) hb)
                    have n5_ := Aside0.mk (below_step (by repeat (first | (with_reducible first | exact HB.out | apply below_alloc | apply pw_below_drewN | apply below_drew1 | refine below_set ?_ GE177.out | refine below_set ?_ GE178.out | refine below_set ?_ GE190.out | refine below_set ?_ GE199.out) | exact HB.out)) hb)
                    clear HO253
                    clear BK177
                    clear BK178
                    clear BK190
                    clear BK199
                    clear HB
                    have HO253 := n0_
                    have BK177 := n1_
                    have BK178 := n2_
                    have BK190 := n3_
                    have BK199 := n4_
                    have HB := n5_
                    clear n0_ n1_ n2_ n3_ n4_ n5_
                    (try clear hb)
                    (try clear hb2)
                    (try clear hk)
                    (try clear hi)
                    obtain ⟨Ao204, co204, eo204⟩ := Kd.R_slice HO253.out
                    (first | subst eo204 | (injection eo204 with f1_ f2_ f3_; have f4_ := f1_.symm; have f5_ := f3_.symm; clear f1_ f2_ f3_; subst f4_; subst f5_))
                    refine hK.out _ _ ⟨(blk_cell BK177.out 0).trans rfl, (blk_cell BK177.out 1).trans rfl, (blk_cell BK177.out 2).trans rfl, (blk_cell BK177.out 3).trans rfl, (blk_cell BK177.out 4).trans rfl, (blk_cell BK177.out 5).trans rfl, (blk_cell BK177.out 6).trans rfl⟩ (fun hHeld => ?_)
                    clear hK K
                    refine norm_ (a' := ?_) ?_ ?_
                    rotate_left
                    · show Act.put _ (some 74) _ = _
                      simp only [Act.put, List.setIfInBounds_toArray, List.set_cons_zero, List.set_cons_succ, i64_w, i32_w]
                      rfl
                    refine pure_ (i := 1) (N := some 75) (v := ?_) (a' := ?_) #[true, true, false, false, false, false, false, false, false, false, false, false, false, false, false, false] rfl rfl (any_of HT_.out (by kernel_rfl)) (fun _ _ _ h => h) (Or.inl ⟨by rfl, ?_⟩) ?_ ?_
                    rotate_left
                    · intro w'
                      go_simp
                      with_reducible rfl
                    rotate_left
                    · simp only [Act.put, List.setIfInBounds_toArray, List.set_cons_zero, List.set_cons_succ, i64_w, i32_w]
                      rfl
                    refine pure_ (i := 2) (N := some 76) (v := ?_) (a' := ?_) #[true, true, true, false, false, false, false, false, false, false, false, false, false, false, false, false] rfl rfl (any_of HT_.out (by kernel_rfl)) (fun _ _ _ h => h) (Or.inl ⟨by rfl, ?_⟩) ?_ ?_
                    rotate_left
                    · intro w'
                      go_simp
                      with_reducible rfl
                    rotate_left
                    · simp only [Act.put, List.setIfInBounds_toArray, List.set_cons_zero, List.set_cons_succ, i64_w, i32_w]
                      rfl
                    refine pure_ (i := 4) (N := some 78) (v := ?_) (a' := ?_) #[true, true, true, false, true, false, false, false, false, false, false, false, false, false, false, false] rfl rfl (any_of HT_.out (by kernel_rfl)) (fun _ _ _ h => h) (Or.inl ⟨by rfl, ?_⟩) ?_ ?_
                    rotate_left
                    · intro w'
                      go_simp
                      with_reducible rfl
                    rotate_left
                    · simp only [Act.put, List.setIfInBounds_toArray, List.set_cons_zero, List.set_cons_succ, i64_w, i32_w]
                      rfl
                    refine take_ (i := 5) (N := some 79) (v := ?_) (a' := ?_) #[true, true, true, false, true, true, false, false, false, false, false, false, false, false, false, false] rfl rfl (take_ofW HT_.out HW_.out (by kernel_rfl)) (fun _ _ _ h => h) (Or.inl ⟨by rfl, ?_⟩) hHeld ?_ ?_
                    rotate_left
                    · rintro w' ⟨s0, s1, s2, s3, s4, s5, s6⟩
                      go_simp
                      with_reducible rfl
                    rotate_left
                    · simp only [Act.put, List.setIfInBounds_toArray, List.set_cons_zero, List.set_cons_succ, i64_w, i32_w]
                      rfl
                    refine pure_ (i := 6) (N := some 80) (v := ?_) (a' := ?_) #[true, true, true, false, true, true, true, false, false, false, false, false, false, false, false, false] rfl rfl (any_of HT_.out (by kernel_rfl)) (fun _ _ _ h => h) (Or.inl ⟨by rfl, ?_⟩) ?_ ?_
                    rotate_left
                    · intro w'
                      go_simp
                      with_reducible rfl
                    rotate_left
                    · simp only [Act.put, List.setIfInBounds_toArray, List.set_cons_zero, List.set_cons_succ, i64_w, i32_w]
                      rfl
                    refine one_ (i := 3) (N := some 77) #[true, true, true, true, true, true, true, false, false, false, false, false, false, false, false, false] rfl rfl (one_of HT_.out (by kernel_rfl)) (by decide) (fun K hK => ?_)
                    refine goes_ Try.func33 (by kernel_rfl) rfl #[.slice Ao204 t251.length co204] (by rfl) rfl rfl (by (try simp only [List.map_toArray, List.map_cons, List.map_nil]); first | done | rfl | (simp only [List.length_drop, List.length_take]; rfl)) ?_
                    with_reducible refine (width_Total.calls kj22 _ _ t251 t256 _ ?side1 ?side2 A193.out).mono ?_
                    (case side1 => repeat (first | exact (Kd.R_reads' HO253.out).2.2 | (with_reducible refine Kd.C_alloc ?_ _) | (with_reducible refine Kd.C_drewN ?_ _) | (with_reducible refine Kd.C_drew ?_)))
                    (case side2 => exact (Kd.R_reads' HO253.out).2.1)
                    rintro e w205 ⟨rfl, hb⟩
                    refine ⟨_, rfl, ?_⟩
                    have n0_ := Aside0.mk (Kd.R_below (by (with_reducible repeat (first | apply Kd.R_alloc | apply Kd.R_drewN | apply Kd.R_drew)); exact HO253.out) hb)
                    have n1_ := Aside0.mk (blk_below (g := gb177) (o := .cells #[.int .i32 a0_0, .int .i32 a0_1, .int .i32 a0_2, .int .u8 a0_3, .int .u8 a0_4, .int .u8 a0_5, .int .u8 a0_6] 26 (0, 0)) (by (with_reducible repeat (first | refine blk_drewN ?_ _ | refine blk_drew ?_ | refine blk_alloc ?_ _)); exact BK177.out) hb)
                    have n2_ := Aside0.mk (blk_below (g := gb178) (o := .cells #[.int .u8 a2_0, .int .u8 a2_1, .int .u8 a2_2] 24 (0, 0)) (by (with_reducible repeat (first | refine blk_drewN ?_ _ | refine blk_drew ?_ | refine blk_alloc ?_ _)); exact BK178.out) hb)
                    have n3_ := Aside0.mk (blk_below (g := gb190) (o := .cells #[.int .i32 t182, .int .i32 t183, .int .i32 t184, .int .u8 t185, .int .u8 t186, .int .u8 t187, .int .u8 t188] 26 (0, 0)) (by (with_reducible repeat (first | refine blk_drewN ?_ _ | refine blk_drew ?_ | refine blk_alloc ?_ _)); exact BK190.out) hb)
                    have n4_ := Aside0.mk (blk_below (g := gb199) (o := .cells #[.int .i32 t191, .int .i32 t192, .int .i32 t193, .int .u8 t194, .int .u8 t195, .int .u8 t196, .int .u8 t197] 26 (0, 0)) (by (with_reducible repeat (first | refine blk_drewN ?_ _ | refine blk_drew ?_ | refine blk_alloc ?_ _)); exact BK199.out) hb)
                    have n5_ := Aside0.mk (below_step (by repeat (first | (with_reducible first | exact HB.out | apply below_alloc | apply pw_below_drewN | apply below_drew1 | refine below_set ?_ GE177.out | refine below_set ?_ GE178.out | refine below_set ?_ GE190.out | refine below_set ?_ GE199.out) | exact HB.out)) hb)
                    clear HO253
                    clear BK177
                    clear BK178
                    clear BK190
                    clear BK199
                    clear HB
                    have HO253 := n0_
                    have BK177 := n1_
                    have BK178 := n2_
                    have BK190 := n3_
                    have BK199 := n4_
                    have HB := n5_
                    clear n0_ n1_ n2_ n3_ n4_ n5_
                    (try clear hb)
                    (try clear hb2)
                    (try clear hk)
                    (try clear hi)
                    refine hK.out _ _ ⟨(blk_cell BK177.out 0).trans rfl, (blk_cell BK177.out 1).trans rfl, (blk_cell BK177.out 2).trans rfl, (blk_cell BK177.out 3).trans rfl, (blk_cell BK177.out 4).trans rfl, (blk_cell BK177.out 5).trans rfl, (blk_cell BK177.out 6).trans rfl⟩ (fun hHeld => ?_)
                    clear hK K
                    refine norm_ (a' := ?_) ?_ ?_
                    rotate_left
                    · show Act.put _ (some 77) _ = _
                      simp only [Act.put, List.setIfInBounds_toArray, List.set_cons_zero, List.set_cons_succ, i64_w, i32_w]
                      rfl
                    refine pure_ (i := 7) (N := some 81) (v := ?_) (a' := ?_) #[true, true, true, true, true, true, true, true, false, false, false, false, false, false, false, false] rfl rfl (any_of HT_.out (by kernel_rfl)) (fun _ _ _ h => h) (Or.inl ⟨by rfl, ?_⟩) ?_ ?_
                    rotate_left
                    · intro w'
                      go_simp
                      with_reducible rfl
                    rotate_left
                    · simp only [Act.put, List.setIfInBounds_toArray, List.set_cons_zero, List.set_cons_succ, i64_w, i32_w]
                      rfl
                    refine pure_ (i := 8) (N := some 82) (v := ?_) (a' := ?_) #[true, true, true, true, true, true, true, true, true, false, false, false, false, false, false, false] rfl rfl (any_of HT_.out (by kernel_rfl)) (fun _ _ _ h => h) (Or.inl ⟨by rfl, ?_⟩) ?_ ?_
                    rotate_left
                    · intro w'
                      go_simp
                      with_reducible rfl
                    rotate_left
                    · simp only [Act.put, List.setIfInBounds_toArray, List.set_cons_zero, List.set_cons_succ, i64_w, i32_w]
                      rfl
                    refine pure_ (i := 9) (N := some 83) (v := ?_) (a' := ?_) #[true, true, true, true, true, true, true, true, true, true, false, false, false, false, false, false] rfl rfl (any_of HT_.out (by kernel_rfl)) (fun _ _ _ h => h) (Or.inl ⟨by rfl, ?_⟩) ?_ ?_
                    rotate_left
                    · intro w'
                      go_simp
                      with_reducible rfl
                    rotate_left
                    · simp only [Act.put, List.setIfInBounds_toArray, List.set_cons_zero, List.set_cons_succ, i64_w, i32_w]
                      rfl
                    refine pure_ (i := 10) (N := some 84) (v := ?_) (a' := ?_) #[true, true, true, true, true, true, true, true, true, true, true, false, false, false, false, false] rfl rfl (any_of HT_.out (by kernel_rfl)) (fun _ _ _ h => h) (Or.inl ⟨by rfl, ?_⟩) ?_ ?_
                    rotate_left
                    · intro w'
                      go_simp
                      with_reducible rfl
                    rotate_left
                    · simp only [Act.put, List.setIfInBounds_toArray, List.set_cons_zero, List.set_cons_succ, i64_w, i32_w]
                      rfl
                    refine one_ (i := 11) (N := some 85) #[true, true, true, true, true, true, true, true, true, true, true, true, false, false, false, false] rfl rfl (one_of HT_.out (by kernel_rfl)) (by decide) (fun K hK => ?_)
                    refine goes_ Try.func34 (by kernel_rfl) rfl #[.slice Ao204 t251.length co204] (by rfl) rfl rfl (by (try simp only [List.map_toArray, List.map_cons, List.map_nil]); first | done | rfl | (simp only [List.length_drop, List.length_take]; rfl)) ?_
                    with_reducible refine (width_Clusters.calls kj22 _ _ t251 t257 _ ?side1 ?side2 A195.out).mono ?_
                    (case side1 => repeat (first | exact (Kd.R_reads' HO253.out).2.2 | (with_reducible refine Kd.C_alloc ?_ _) | (with_reducible refine Kd.C_drewN ?_ _) | (with_reducible refine Kd.C_drew ?_)))
                    (case side2 => exact (Kd.R_reads' HO253.out).2.1)
                    rintro e w206 ⟨v258, rfl, ho0, hb⟩
                    refine ⟨_, rfl, ?_⟩
                    have n0_ := Aside0.mk (Kd.R_below (by (with_reducible repeat (first | apply Kd.R_alloc | apply Kd.R_drewN | apply Kd.R_drew)); exact HO253.out) hb)
                    have n1_ := Aside0.mk (Kd.S_lower (Kd.S_new' ho0 (Kd.R_lt (by (with_reducible repeat (first | apply Kd.R_alloc | apply Kd.R_drewN | apply Kd.R_drew)); exact HO253.out))) (below_size (by repeat (first | (with_reducible first | exact HB.out | apply below_alloc | apply pw_below_drewN | apply below_drew1 | refine below_set ?_ GE177.out | refine below_set ?_ GE178.out | refine below_set ?_ GE190.out | refine below_set ?_ GE199.out) | exact HB.out))))
                    have n2_ := Aside0.mk (blk_below (g := gb177) (o := .cells #[.int .i32 a0_0, .int .i32 a0_1, .int .i32 a0_2, .int .u8 a0_3, .int .u8 a0_4, .int .u8 a0_5, .int .u8 a0_6] 26 (0, 0)) (by (with_reducible repeat (first | refine blk_drewN ?_ _ | refine blk_drew ?_ | refine blk_alloc ?_ _)); exact BK177.out) hb)
                    have n3_ := Aside0.mk (blk_below (g := gb178) (o := .cells #[.int .u8 a2_0, .int .u8 a2_1, .int .u8 a2_2] 24 (0, 0)) (by (with_reducible repeat (first | refine blk_drewN ?_ _ | refine blk_drew ?_ | refine blk_alloc ?_ _)); exact BK178.out) hb)
                    have n4_ := Aside0.mk (blk_below (g := gb190) (o := .cells #[.int .i32 t182, .int .i32 t183, .int .i32 t184, .int .u8 t185, .int .u8 t186, .int .u8 t187, .int .u8 t188] 26 (0, 0)) (by (with_reducible repeat (first | refine blk_drewN ?_ _ | refine blk_drew ?_ | refine blk_alloc ?_ _)); exact BK190.out) hb)
                    have n5_ := Aside0.mk (blk_below (g := gb199) (o := .cells #[.int .i32 t191, .int .i32 t192, .int .i32 t193, .int .u8 t194, .int .u8 t195, .int .u8 t196, .int .u8 t197] 26 (0, 0)) (by (with_reducible repeat (first | refine blk_drewN ?_ _ | refine blk_drew ?_ | refine blk_alloc ?_ _)); exact BK199.out) hb)
                    have n6_ := Aside0.mk (below_step (by repeat (first | (with_reducible first | exact HB.out | apply below_alloc | apply pw_below_drewN | apply below_drew1 | refine below_set ?_ GE177.out | refine below_set ?_ GE178.out | refine below_set ?_ GE190.out | refine below_set ?_ GE199.out) | exact HB.out)) hb)
                    clear HO253
                    clear BK177
                    clear BK178
                    clear BK190
                    clear BK199
                    clear HB
                    have HO253 := n0_
                    have HO259 := n1_
                    have BK177 := n2_
                    have BK178 := n3_
                    have BK190 := n4_
                    have BK199 := n5_
                    have HB := n6_
                    clear n0_ n1_ n2_ n3_ n4_ n5_ n6_
                    (try clear hb)
                    (try clear hb2)
                    (try clear hk)
                    (try clear hi)
                    (try clear ho0)
                    obtain ⟨Ao207, co207, eo207⟩ := Kd.S_slice HO259.out
                    (first | subst eo207 | (injection eo207 with f1_ f2_ f3_; have f4_ := f1_.symm; have f5_ := f3_.symm; clear f1_ f2_ f3_; subst f4_; subst f5_))
                    refine hK.out _ _ ⟨(blk_cell BK177.out 0).trans rfl, (blk_cell BK177.out 1).trans rfl, (blk_cell BK177.out 2).trans rfl, (blk_cell BK177.out 3).trans rfl, (blk_cell BK177.out 4).trans rfl, (blk_cell BK177.out 5).trans rfl, (blk_cell BK177.out 6).trans rfl⟩ (fun hHeld => ?_)
                    clear hK K
                    refine norm_ (a' := ?_) ?_ ?_
                    rotate_left
                    · show Act.put _ (some 85) _ = _
                      simp only [Act.put, List.setIfInBounds_toArray, List.set_cons_zero, List.set_cons_succ, i64_w, i32_w]
                      rfl
                    refine pure_ (i := 12) (N := some 86) (v := ?_) (a' := ?_) #[true, true, true, true, true, true, true, true, true, true, true, true, true, false, false, false] rfl rfl (any_of HT_.out (by kernel_rfl)) (fun _ _ _ h => h) (Or.inl ⟨by rfl, ?_⟩) ?_ ?_
                    rotate_left
                    · intro w'
                      go_simp
                      with_reducible rfl
                    rotate_left
                    · simp only [Act.put, List.setIfInBounds_toArray, List.set_cons_zero, List.set_cons_succ, i64_w, i32_w]
                      rfl
                    refine pure_ (i := 13) (N := some 87) (v := ?_) (a' := ?_) #[true, true, true, true, true, true, true, true, true, true, true, true, true, true, false, false] rfl rfl (any_of HT_.out (by kernel_rfl)) (fun _ _ _ h => h) (Or.inl ⟨by rfl, ?_⟩) ?_ ?_
                    rotate_left
                    · intro w'
                      go_simp
                      with_reducible rfl
                    rotate_left
                    · simp only [Act.put, List.setIfInBounds_toArray, List.set_cons_zero, List.set_cons_succ, i64_w, i32_w]
                      rfl
                    refine pure_ (i := 14) (N := some 88) (v := ?_) (a' := ?_) #[true, true, true, true, true, true, true, true, true, true, true, true, true, true, true, false] rfl rfl (any_of HT_.out (by kernel_rfl)) (fun _ _ _ h => h) (Or.inl ⟨by rfl, ?_⟩) ?_ ?_
                    rotate_left
                    · intro w'
                      go_simp
                      with_reducible rfl
                    rotate_left
                    · simp only [Act.put, List.setIfInBounds_toArray, List.set_cons_zero, List.set_cons_succ, i64_w, i32_w]
                      rfl
                    refine pure_ (i := 15) (N := some 6) (v := ?_) (a' := ?_) #[true, true, true, true, true, true, true, true, true, true, true, true, true, true, true, true] rfl rfl (any_of HT_.out (by kernel_rfl)) (fun _ _ _ h => h) (Or.inl ⟨by rfl, ?_⟩) ?_ ?_
                    rotate_left
                    · intro w'
                      go_simp
                      with_reducible rfl
                    rotate_left
                    · simp only [Act.put, List.setIfInBounds_toArray, List.set_cons_zero, List.set_cons_succ, i64_w, i32_w]
                      rfl
                    refine done_ (done_of HT_.out (by kernel_rfl)) ?_
                    try go_wp2
                    go_ret
                    exact ⟨by first | rfl | (simp [errW_none, errW_some] <;> rfl) | (simp [*, errW_none, errW_some] <;> rfl), by repeat (first | (with_reducible first | exact HB.out | apply below_alloc | apply pw_below_drewN | apply below_drew1 | refine below_set ?_ GE177.out | refine below_set ?_ GE178.out | refine below_set ?_ GE190.out | refine below_set ?_ GE199.out) | exact HB.out)⟩
                  · rw [if_neg c194] at H; rw [HRT.out] at H; cases H
                · replace c192 := Bool.eq_false_iff.mpr c192
                  subst c192
                  have H1 : (some false) = some r := by rw [if_neg (show ¬ (false = true) by decide)] at H; exact H
                  rw [HRT.out] at H1; cases H1
end Go.Proofs.Ytblcmcdifgclcaa.PCellStays
