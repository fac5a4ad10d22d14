/- What the law LineTwice reaches: each function with its contract. -/
import Derived.Test.YtblcmcdifgclcaaPLineTwicex0
import Derived.Test.YtblcmcdifgclcaaPLineTwicex3
import Derived.Test.YtblcmcdifgclcaaPLineTwicex4
import Derived.Test.YtblcmcdifgclcaaPLineTwicex5
import Derived.Test.YtblcmcdifgclcaaPLineTwicex6
namespace Go.Proofs.Ytblcmcdifgclcaa.PLineTwice
open Go.RowKit Go.Proofs.YtblcmcdifgclcaaW.PrintWords Go.Proofs.YtblcmcdifgclcaaW.PrintLast Go.Proofs.YtblcmcdifgclcaaW.PrintMore
attribute [local go_sem] max2_int min2_int max_two min_two max_three min_three max_four min_four   -- for this text's walks alone
set_option linter.unusedVariables false
set_option linter.unusedSimpArgs false

/-! ### prolepsislaw06_LineTwice: function 6 -/
mutual
def prolepsislaw06_LineTwice.j0 : Nat → List (S26) → Int → Int → Bool → Int → Int → Int → Int → Int → Int → Int → Int → Int → Int → Int → Int → Int → Int → Int → Int → Int → Option (Bool)
  | 0, _, _, _, _, _, _, _, _, _, _, _, _, _, _, _, _, _, _, _, _, _ => none
  | k + 1, x0, x3, x4, x34, x215000, x215001, x215002, x215003, x215004, x215005, x215006, x216000, x216001, x216002, x216003, x216004, x216005, x216006, x217000, x217001, x217002 => if x34 = true then ((line_Put.f k x0 x3 x215000 x215001 x215002 x215003 x215004 x215005 x215006).bind fun bt221 => ((line_Put.f k bt221.1 x3 x216000 x216001 x216002 x216003 x216004 x216005 x216006).bind fun bt225 => ((line_Put.f k x0 x3 x216000 x216001 x216002 x216003 x216004 x216005 x216006).bind fun bt229 => (if bt221.2 = true then (if bt225.2 = true then (if bt229.2 = true then ((line_Same.f k bt225.1 bt229.1).bind fun t233 => (if t233 = true then (prolepsislaw06_LineTwice.j1 k x0 x3 x4 x217000 x217001 x217002) else (some false))) else (prolepsislaw06_LineTwice.j1 k x0 x3 x4 x217000 x217001 x217002)) else (prolepsislaw06_LineTwice.j1 k x0 x3 x4 x217000 x217001 x217002)) else (prolepsislaw06_LineTwice.j1 k x0 x3 x4 x217000 x217001 x217002))))) else (prolepsislaw06_LineTwice.j1 k x0 x3 x4 x217000 x217001 x217002)
def prolepsislaw06_LineTwice.j1 : Nat → List (S26) → Int → Int → Int → Int → Int → Option (Bool)
  | 0, _, _, _, _, _, _ => none
  | k + 1, x0, x3, x4, x217000, x217001, x217002 => (line_Fit.f k x0 x4).bind fun t234 => ((line_Erase.f k x0 x3 x4 x217000 x217001 x217002).bind fun t237 => ((prolepsislaw06_known.f).bind fun t240 => (if t240 = true then ((line_Fit.f k t234 x4).bind fun t241 => ((line_Same.f k t241 t234).bind fun t244 => (if t244 = true then ((line_Erase.f k t237 x3 x4 x217000 x217001 x217002).bind fun t245 => ((line_Same.f k t245 t237).bind fun t248 => (some t248))) else (some false)))) else (some false))))
end
def prolepsislaw06_LineTwice.f (k : Nat) (l0 : List (S26)) (a1_0 : Int) (a1_1 : Int) (a1_2 : Int) (a1_3 : Int) (a1_4 : Int) (a1_5 : Int) (a1_6 : Int) (a2_0 : Int) (a2_1 : Int) (a2_2 : Int) (a2_3 : Int) (a2_4 : Int) (a2_5 : Int) (a2_6 : Int) (a3 : Int) (a4 : Int) (a5_0 : Int) (a5_1 : Int) (a5_2 : Int) : Option (Bool) := (prolepsislaw06_Cut.f l0).bind fun t217 => (if a1_3 = 1 then (if a2_3 = 1 then ((line_Right.f k t217).bind fun t220 => (prolepsislaw06_LineTwice.j0 k t217 a3 a4 t220 a1_0 a1_1 a1_2 a1_3 a1_4 a1_5 a1_6 a2_0 a2_1 a2_2 a2_3 a2_4 a2_5 a2_6 a5_0 a5_1 a5_2)) else (prolepsislaw06_LineTwice.j0 k t217 a3 a4 false a1_0 a1_1 a1_2 a1_3 a1_4 a1_5 a1_6 a2_0 a2_1 a2_2 a2_3 a2_4 a2_5 a2_6 a5_0 a5_1 a5_2)) else (prolepsislaw06_LineTwice.j0 k t217 a3 a4 false a1_0 a1_1 a1_2 a1_3 a1_4 a1_5 a1_6 a2_0 a2_1 a2_2 a2_3 a2_4 a2_5 a2_6 a5_0 a5_1 a5_2))
theorem prolepsislaw06_LineTwice.mono_l : ∀ k, (∀ y0 y1 y2 y3 y4 y5 y6 y7 y8 y9 y10 y11 y12 y13 y14 y15 y16 y17 y18 y19 y20, LeO (prolepsislaw06_LineTwice.j0 k y0 y1 y2 y3 y4 y5 y6 y7 y8 y9 y10 y11 y12 y13 y14 y15 y16 y17 y18 y19 y20) (prolepsislaw06_LineTwice.j0 (k + 1) y0 y1 y2 y3 y4 y5 y6 y7 y8 y9 y10 y11 y12 y13 y14 y15 y16 y17 y18 y19 y20)) ∧ (∀ y0 y1 y2 y3 y4 y5, LeO (prolepsislaw06_LineTwice.j1 k y0 y1 y2 y3 y4 y5) (prolepsislaw06_LineTwice.j1 (k + 1) y0 y1 y2 y3 y4 y5))
  | 0 => ⟨fun _ _ _ _ _ _ _ _ _ _ _ _ _ _ _ _ _ _ _ _ _ r h => by simp [prolepsislaw06_LineTwice.j0] at h, fun _ _ _ _ _ _ r h => by simp [prolepsislaw06_LineTwice.j1] at h⟩
  | k + 1 => by
    obtain ⟨ih0, ih1⟩ := prolepsislaw06_LineTwice.mono_l k
    refine ⟨?_, ?_⟩
    · intro y0 y1 y2 y3 y4 y5 y6 y7 y8 y9 y10 y11 y12 y13 y14 y15 y16 y17 y18 y19 y20
      unfold prolepsislaw06_LineTwice.j0
      repeat' first
      | (with_reducible exact ih0 _ _ _ _ _ _ _ _ _ _ _ _ _ _ _ _ _ _ _ _ _)
      | (with_reducible exact ih1 _ _ _ _ _ _)
      | (with_reducible exact line_Erase.mono _ _ _ _ _ _ _)
      | (with_reducible exact line_Fit.mono _ _ _)
      | (with_reducible exact line_Put.mono _ _ _ _ _ _ _ _ _ _)
      | (with_reducible exact line_Right.mono _ _)
      | (with_reducible exact line_Same.mono _ _ _)
      | (with_reducible exact LeO.refl _)
      | (with_reducible exact LeO.none _)
      | (with_reducible refine LeO.ite ?_ ?_)
      | (with_reducible refine LeO.bind ?_ (fun _ => ?_))
      | exact ih0 _ _ _ _ _ _ _ _ _ _ _ _ _ _ _ _ _ _ _ _ _
      | exact ih1 _ _ _ _ _ _
      | exact line_Erase.mono _ _ _ _ _ _ _
      | exact line_Fit.mono _ _ _
      | exact line_Put.mono _ _ _ _ _ _ _ _ _ _
      | exact line_Right.mono _ _
      | exact line_Same.mono _ _ _
      | exact LeO.none _
      | refine LeO.ite ?_ ?_
      | refine LeO.bind ?_ (fun _ => ?_)
    · intro y0 y1 y2 y3 y4 y5
      unfold prolepsislaw06_LineTwice.j1
      repeat' first
      | (with_reducible exact ih0 _ _ _ _ _ _ _ _ _ _ _ _ _ _ _ _ _ _ _ _ _)
      | (with_reducible exact ih1 _ _ _ _ _ _)
      | (with_reducible exact line_Erase.mono _ _ _ _ _ _ _)
      | (with_reducible exact line_Fit.mono _ _ _)
      | (with_reducible exact line_Put.mono _ _ _ _ _ _ _ _ _ _)
      | (with_reducible exact line_Right.mono _ _)
      | (with_reducible exact line_Same.mono _ _ _)
      | (with_reducible exact LeO.refl _)
      | (with_reducible exact LeO.none _)
      | (with_reducible refine LeO.ite ?_ ?_)
      | (with_reducible refine LeO.bind ?_ (fun _ => ?_))
      | exact ih0 _ _ _ _ _ _ _ _ _ _ _ _ _ _ _ _ _ _ _ _ _
      | exact ih1 _ _ _ _ _ _
      | exact line_Erase.mono _ _ _ _ _ _ _
      | exact line_Fit.mono _ _ _
      | exact line_Put.mono _ _ _ _ _ _ _ _ _ _
      | exact line_Right.mono _ _
      | exact line_Same.mono _ _ _
      | exact LeO.none _
      | refine LeO.ite ?_ ?_
      | refine LeO.bind ?_ (fun _ => ?_)
theorem prolepsislaw06_LineTwice.mono : ∀ a0 a1 a2 a3 a4 a5 a6 a7 a8 a9 a10 a11 a12 a13 a14 a15 a16 a17 a18 a19 k, LeO (prolepsislaw06_LineTwice.f k a0 a1 a2 a3 a4 a5 a6 a7 a8 a9 a10 a11 a12 a13 a14 a15 a16 a17 a18 a19) (prolepsislaw06_LineTwice.f (k + 1) a0 a1 a2 a3 a4 a5 a6 a7 a8 a9 a10 a11 a12 a13 a14 a15 a16 a17 a18 a19) := by
  intro a0 a1 a2 a3 a4 a5 a6 a7 a8 a9 a10 a11 a12 a13 a14 a15 a16 a17 a18 a19 k
  obtain ⟨ih0, ih1⟩ := prolepsislaw06_LineTwice.mono_l k
  unfold prolepsislaw06_LineTwice.f
  repeat' first
      | (with_reducible exact ih0 _ _ _ _ _ _ _ _ _ _ _ _ _ _ _ _ _ _ _ _ _)
      | (with_reducible exact ih1 _ _ _ _ _ _)
      | (with_reducible exact line_Erase.mono _ _ _ _ _ _ _)
      | (with_reducible exact line_Fit.mono _ _ _)
      | (with_reducible exact line_Put.mono _ _ _ _ _ _ _ _ _ _)
      | (with_reducible exact line_Right.mono _ _)
      | (with_reducible exact line_Same.mono _ _ _)
      | (with_reducible exact LeO.refl _)
      | (with_reducible exact LeO.none _)
      | (with_reducible refine LeO.ite ?_ ?_)
      | (with_reducible refine LeO.bind ?_ (fun _ => ?_))
      | exact ih0 _ _ _ _ _ _ _ _ _ _ _ _ _ _ _ _ _ _ _ _ _
      | exact ih1 _ _ _ _ _ _
      | exact line_Erase.mono _ _ _ _ _ _ _
      | exact line_Fit.mono _ _ _
      | exact line_Put.mono _ _ _ _ _ _ _ _ _ _
      | exact line_Right.mono _ _
      | exact line_Same.mono _ _ _
      | exact LeO.none _
      | refine LeO.ite ?_ ?_
      | refine LeO.bind ?_ (fun _ => ?_)
set_option maxHeartbeats 8000000 in
set_option maxRecDepth 100000 in
theorem prolepsislaw06_LineTwice.calls (k : Nat) (A0 : Option Addr) (c0 : Nat) (l0 : List (S26)) (a1_0 : Int) (a1_1 : Int) (a1_2 : Int) (a1_3 : Int) (a1_4 : Int) (a1_5 : Int) (a1_6 : Int) (a2_0 : Int) (a2_1 : Int) (a2_2 : Int) (a2_3 : Int) (a2_4 : Int) (a2_5 : Int) (a2_6 : Int) (a3 : Int) (a4 : Int) (a5_0 : Int) (a5_1 : Int) (a5_2 : Int) (r : Bool) (w : World) (hr0 : Kd.C k26 w A0 l0.length l0) (hc0 : l0.length ≤ c0) (h : prolepsislaw06_LineTwice.f k l0 a1_0 a1_1 a1_2 a1_3 a1_4 a1_5 a1_6 a2_0 a2_1 a2_2 a2_3 a2_4 a2_5 a2_6 a3 a4 a5_0 a5_1 a5_2 = some r) :
    Calls Try.prog 6 #[.slice A0 l0.length c0, .agg #[.int .i32 a1_0, .int .i32 a1_1, .int .i32 a1_2, .int .u8 a1_3, .int .u8 a1_4, .int .u8 a1_5, .int .u8 a1_6], .agg #[.int .i32 a2_0, .int .i32 a2_1, .int .i32 a2_2, .int .u8 a2_3, .int .u8 a2_4, .int .u8 a2_5, .int .u8 a2_6], .int .i64 a3, .int .i64 a4, .agg #[.int .u8 a5_0, .int .u8 a5_1, .int .u8 a5_2]] w fun e w' => e = .returned (.bool r) ∧ Below w.heap.size w w' := by
  have hu26 := Try.underlying26
  have hu24 := Try.underlying24
  have HR0 := Aside0.mk hr0
  have HC0 := Aside0.mk hc0
  clear hr0 hc0
  have HB := Aside0.mk (Below.refl w.heap.size w)
  have H : ((prolepsislaw06_Cut.f l0).bind fun t217 => (if a1_3 = 1 then (if a2_3 = 1 then ((line_Right.f k t217).bind fun t220 => (prolepsislaw06_LineTwice.j0 k t217 a3 a4 t220 a1_0 a1_1 a1_2 a1_3 a1_4 a1_5 a1_6 a2_0 a2_1 a2_2 a2_3 a2_4 a2_5 a2_6 a5_0 a5_1 a5_2)) else (prolepsislaw06_LineTwice.j0 k t217 a3 a4 false a1_0 a1_1 a1_2 a1_3 a1_4 a1_5 a1_6 a2_0 a2_1 a2_2 a2_3 a2_4 a2_5 a2_6 a5_0 a5_1 a5_2)) else (prolepsislaw06_LineTwice.j0 k t217 a3 a4 false a1_0 a1_1 a1_2 a1_3 a1_4 a1_5 a1_6 a2_0 a2_1 a2_2 a2_3 a2_4 a2_5 a2_6 a5_0 a5_1 a5_2))) = some r := h
  clear h
  replace H := Option.bind_eq_some_iff.mp H
  obtain ⟨t217, A70, H⟩ := H
  replace H : (if a1_3 = 1 then (if a2_3 = 1 then ((line_Right.f k t217).bind fun t220 => (prolepsislaw06_LineTwice.j0 k t217 a3 a4 t220 a1_0 a1_1 a1_2 a1_3 a1_4 a1_5 a1_6 a2_0 a2_1 a2_2 a2_3 a2_4 a2_5 a2_6 a5_0 a5_1 a5_2)) else (prolepsislaw06_LineTwice.j0 k t217 a3 a4 false a1_0 a1_1 a1_2 a1_3 a1_4 a1_5 a1_6 a2_0 a2_1 a2_2 a2_3 a2_4 a2_5 a2_6 a5_0 a5_1 a5_2)) else (prolepsislaw06_LineTwice.j0 k t217 a3 a4 false a1_0 a1_1 a1_2 a1_3 a1_4 a1_5 a1_6 a2_0 a2_1 a2_2 a2_3 a2_4 a2_5 a2_6 a5_0 a5_1 a5_2)) = some r := H
  have A7 := Aside0.mk A70
  clear A70
  have HC8 := Aside0.mk H
  clear H
  go_enter Try.func6, Try.ntmps6
  go_upto_region 2 with (first | ((with_reducible refine gate_dst (N := 7) rfl ?_); refine box_event ?hg (N := 7) ?hd (cs := #[.int .i32 a1_0, .int .i32 a1_1, .int .i32 a1_2, .int .u8 a1_3, .int .u8 a1_4, .int .u8 a1_5, .int .u8 a1_6]) (t := 26) ?hr ?_; (case hd => rfl); (case hg => rfl); (case hr => first | (go_simp; done) | (go_simp; rfl)); intro gb214 hg w9 hbox hb; have n0_ := Aside0.mk (below_step (by repeat (first | (with_reducible first | exact HB.out | apply below_alloc | apply pw_below_drewN | apply below_drew1) | exact HB.out)) hb); have n1_ := Aside0.mk (hbox); have n2_ := Aside0.mk ((by rw [hg]; exact (below_size (by repeat (first | (with_reducible first | exact HB.out | apply below_alloc | apply pw_below_drewN | apply below_drew1) | exact HB.out))) : w.heap.size ≤ gb214)); have n3_ := Aside0.mk ((by rw [hg]; exact (below_size (by repeat (first | (with_reducible first | exact HB.out | apply below_alloc | apply pw_below_drewN | apply below_drew1) | exact HB.out))) : w.heap.size ≤ gb214)); clear HB; have HB := n0_; have BK214 := n1_; have GW214 := n2_; have GE214 := n3_; clear n0_ n1_ n2_ n3_; clear hb hbox hg) | ((with_reducible refine gate_dst (N := 8) rfl ?_); refine box_event ?hg (N := 8) ?hd (cs := #[.int .i32 a2_0, .int .i32 a2_1, .int .i32 a2_2, .int .u8 a2_3, .int .u8 a2_4, .int .u8 a2_5, .int .u8 a2_6]) (t := 26) ?hr ?_; (case hd => rfl); (case hg => rfl); (case hr => first | (go_simp; done) | (go_simp; rfl)); intro gb215 hg w10 hbox hb; have n0_ := Aside0.mk (blk_below (g := gb214) (o := .cells #[.int .i32 a1_0, .int .i32 a1_1, .int .i32 a1_2, .int .u8 a1_3, .int .u8 a1_4, .int .u8 a1_5, .int .u8 a1_6] 26 (0, 0)) (by (with_reducible repeat (first | refine blk_drewN ?_ _ | refine blk_drew ?_ | refine blk_alloc ?_ _)); exact BK214.out) hb); have n1_ := Aside0.mk (below_step (by repeat (first | (with_reducible first | exact HB.out | apply below_alloc | apply pw_below_drewN | apply below_drew1 | refine below_set ?_ GE214.out) | exact HB.out)) hb); have n2_ := Aside0.mk (hbox); have n3_ := Aside0.mk ((by rw [hg]; exact (below_size (by repeat (first | (with_reducible first | exact HB.out | apply below_alloc | apply pw_below_drewN | apply below_drew1 | refine below_set ?_ GE214.out) | exact HB.out))) : w.heap.size ≤ gb215)); have n4_ := Aside0.mk ((by rw [hg]; exact (below_size (by repeat (first | (with_reducible first | exact HB.out | apply below_alloc | apply pw_below_drewN | apply below_drew1 | refine below_set ?_ GE214.out) | exact HB.out))) : w.heap.size ≤ gb215)); have n5_ := Aside0.mk ((by rw [hg]; exact Nat.ne_of_lt (blk_lt (g := gb214) (o := .cells #[.int .i32 a1_0, .int .i32 a1_1, .int .i32 a1_2, .int .u8 a1_3, .int .u8 a1_4, .int .u8 a1_5, .int .u8 a1_6] 26 (0, 0)) (by (with_reducible repeat (first | refine blk_drewN ?_ _ | refine blk_drew ?_ | refine blk_alloc ?_ _)); exact BK214.out)) : gb214 ≠ gb215)); have n6_ := Aside0.mk ((by rw [hg]; exact Nat.ne_of_gt (blk_lt (g := gb214) (o := .cells #[.int .i32 a1_0, .int .i32 a1_1, .int .i32 a1_2, .int .u8 a1_3, .int .u8 a1_4, .int .u8 a1_5, .int .u8 a1_6] 26 (0, 0)) (by (with_reducible repeat (first | refine blk_drewN ?_ _ | refine blk_drew ?_ | refine blk_alloc ?_ _)); exact BK214.out)) : gb215 ≠ gb214)); clear BK214; clear HB; have BK214 := n0_; have HB := n1_; have BK215 := n2_; have GW215 := n3_; have GE215 := n4_; have NB214_215 := n5_; have NB215_214 := n6_; clear n0_ n1_ n2_ n3_ n4_ n5_ n6_; clear hb hbox hg) | ((with_reducible refine gate_dst (N := 11) rfl ?_); refine box_event ?hg (N := 11) ?hd (cs := #[.int .u8 a5_0, .int .u8 a5_1, .int .u8 a5_2]) (t := 24) ?hr ?_; (case hd => rfl); (case hg => rfl); (case hr => first | (go_simp; done) | (go_simp; rfl)); intro gb216 hg w11 hbox hb; have n0_ := Aside0.mk (blk_below (g := gb214) (o := .cells #[.int .i32 a1_0, .int .i32 a1_1, .int .i32 a1_2, .int .u8 a1_3, .int .u8 a1_4, .int .u8 a1_5, .int .u8 a1_6] 26 (0, 0)) (by (with_reducible repeat (first | refine blk_drewN ?_ _ | refine blk_drew ?_ | refine blk_alloc ?_ _)); exact BK214.out) hb); have n1_ := Aside0.mk (blk_below (g := gb215) (o := .cells #[.int .i32 a2_0, .int .i32 a2_1, .int .i32 a2_2, .int .u8 a2_3, .int .u8 a2_4, .int .u8 a2_5, .int .u8 a2_6] 26 (0, 0)) (by (with_reducible repeat (first | refine blk_drewN ?_ _ | refine blk_drew ?_ | refine blk_alloc ?_ _)); exact BK215.out) hb); have n2_ := Aside0.mk (below_step (by repeat (first | (with_reducible first | exact HB.out | apply below_alloc | apply pw_below_drewN | apply below_drew1 | refine below_set ?_ GE214.out | refine below_set ?_ GE215.out) | exact HB.out)) hb); have n3_ := Aside0.mk (hbox); have n4_ := Aside0.mk ((by rw [hg]; exact (below_size (by repeat (first | (with_reducible first | exact HB.out | apply below_alloc | apply pw_below_drewN | apply below_drew1 | refine below_set ?_ GE214.out | refine below_set ?_ GE215.out) | exact HB.out))) : w.heap.size ≤ gb216)); have n5_ := Aside0.mk ((by rw [hg]; exact (below_size (by repeat (first | (with_reducible first | exact HB.out | apply below_alloc | apply pw_below_drewN | apply below_drew1 | refine below_set ?_ GE214.out | refine below_set ?_ GE215.out) | exact HB.out))) : w.heap.size ≤ gb216)); have n6_ := Aside0.mk ((by rw [hg]; exact Nat.ne_of_lt (blk_lt (g := gb214) (o := .cells #[.int .i32 a1_0, .int .i32 a1_1, .int .i32 a1_2, .int .u8 a1_3, .int .u8 a1_4, .int .u8 a1_5, .int .u8 a1_6] 26 (0, 0)) (by (with_reducible repeat (first | refine blk_drewN ?_ _ | refine blk_drew ?_ | refine blk_alloc ?_ _)); exact BK214.out)) : gb214 ≠ gb216)); have n7_ := Aside0.mk ((by rw [hg]; exact Nat.ne_of_gt (blk_lt (g := gb214) (o := .cells #[.int .i32 a1_0, .int .i32 a1_1, .int .i32 a1_2, .int .u8 a1_3, .int .u8 a1_4, .int .u8 a1_5, .int .u8 a1_6] 26 (0, 0)) (by (with_reducible repeat (first | refine blk_drewN ?_ _ | refine blk_drew ?_ | refine blk_alloc ?_ _)); exact BK214.out)) : gb216 ≠ gb214)); have n8_ := Aside0.mk ((by rw [hg]; exact Nat.ne_of_lt (blk_lt (g := gb215) (o := .cells #[.int .i32 a2_0, .int .i32 a2_1, .int .i32 a2_2, .int .u8 a2_3, .int .u8 a2_4, .int .u8 a2_5, .int .u8 a2_6] 26 (0, 0)) (by (with_reducible repeat (first | refine blk_drewN ?_ _ | refine blk_drew ?_ | refine blk_alloc ?_ _)); exact BK215.out)) : gb215 ≠ gb216)); have n9_ := Aside0.mk ((by rw [hg]; exact Nat.ne_of_gt (blk_lt (g := gb215) (o := .cells #[.int .i32 a2_0, .int .i32 a2_1, .int .i32 a2_2, .int .u8 a2_3, .int .u8 a2_4, .int .u8 a2_5, .int .u8 a2_6] 26 (0, 0)) (by (with_reducible repeat (first | refine blk_drewN ?_ _ | refine blk_drew ?_ | refine blk_alloc ?_ _)); exact BK215.out)) : gb216 ≠ gb215)); clear BK214; clear BK215; clear HB; have BK214 := n0_; have BK215 := n1_; have HB := n2_; have BK216 := n3_; have GW216 := n4_; have GE216 := n5_; have NB214_216 := n6_; have NB216_214 := n7_; have NB215_216 := n8_; have NB216_215 := n9_; clear n0_ n1_ n2_ n3_ n4_ n5_ n6_ n7_ n8_ n9_; clear hb hbox hg) | ((with_reducible refine gate_callee (f := 35) rfl ?_); refine goesL_ (some 22) rfl rfl Try.func35 (by kernel_rfl) rfl #[.slice A0 l0.length c0] rfl (by (try simp only [List.map_toArray, List.map_cons, List.map_nil]); first | done | rfl | (simp only [List.length_drop, List.length_take]; rfl)) ?_; (with_reducible refine (prolepsislaw06_Cut.calls _ _ l0 t217 _ ?side1 ?side2 A7.out).mono ?_); (case side1 => repeat (first | exact (Kd.C_below HR0.out HB.out) | (with_reducible refine Kd.C_alloc ?_ _) | (with_reducible refine Kd.C_drewN ?_ _) | (with_reducible refine Kd.C_drew ?_))); (case side2 => exact HC0.out); rintro e w12 ⟨v218, rfl, ho0, hb⟩; refine ⟨_, rfl, ?_⟩; have n0_ := Aside0.mk (Kd.R_lower (Kd.R_newB (Kd.R_newB ho0 (g := gb214) (o := .cells #[.int .i32 a1_0, .int .i32 a1_1, .int .i32 a1_2, .int .u8 a1_3, .int .u8 a1_4, .int .u8 a1_5, .int .u8 a1_6] 26 (0, 0)) (by (with_reducible repeat (first | refine blk_drewN ?_ _ | refine blk_drew ?_ | refine blk_alloc ?_ _)); exact BK214.out)) (g := gb215) (o := .cells #[.int .i32 a2_0, .int .i32 a2_1, .int .i32 a2_2, .int .u8 a2_3, .int .u8 a2_4, .int .u8 a2_5, .int .u8 a2_6] 26 (0, 0)) (by (with_reducible repeat (first | refine blk_drewN ?_ _ | refine blk_drew ?_ | refine blk_alloc ?_ _)); exact BK215.out)) (below_size (by repeat (first | (with_reducible first | exact HB.out | apply below_alloc | apply pw_below_drewN | apply below_drew1 | refine below_set ?_ GE214.out | refine below_set ?_ GE215.out | refine below_set ?_ GE216.out) | exact HB.out)))); have n1_ := Aside0.mk (blk_below (g := gb214) (o := .cells #[.int .i32 a1_0, .int .i32 a1_1, .int .i32 a1_2, .int .u8 a1_3, .int .u8 a1_4, .int .u8 a1_5, .int .u8 a1_6] 26 (0, 0)) (by (with_reducible repeat (first | refine blk_drewN ?_ _ | refine blk_drew ?_ | refine blk_alloc ?_ _)); exact BK214.out) hb); have n2_ := Aside0.mk (blk_below (g := gb215) (o := .cells #[.int .i32 a2_0, .int .i32 a2_1, .int .i32 a2_2, .int .u8 a2_3, .int .u8 a2_4, .int .u8 a2_5, .int .u8 a2_6] 26 (0, 0)) (by (with_reducible repeat (first | refine blk_drewN ?_ _ | refine blk_drew ?_ | refine blk_alloc ?_ _)); exact BK215.out) hb); have n3_ := Aside0.mk (blk_below (g := gb216) (o := .cells #[.int .u8 a5_0, .int .u8 a5_1, .int .u8 a5_2] 24 (0, 0)) (by (with_reducible repeat (first | refine blk_drewN ?_ _ | refine blk_drew ?_ | refine blk_alloc ?_ _)); exact BK216.out) hb); have n4_ := Aside0.mk (below_step (by repeat (first | (with_reducible first | exact HB.out | apply below_alloc | apply pw_below_drewN | apply below_drew1 | refine below_set ?_ GE214.out | refine below_set ?_ GE215.out | refine below_set ?_ GE216.out) | exact HB.out)) hb); clear BK214; clear BK215; clear BK216; clear HB; have HO219 := n0_; have BK214 := n1_; have BK215 := n2_; have BK216 := n3_; have HB := n4_; clear n0_ n1_ n2_ n3_ n4_; (try clear hb); (try clear hb2); (try clear hk); (try clear hi); (try clear ho0)))
  (try simp only [Act.put, List.setIfInBounds_toArray, List.set_cons_zero, List.set_cons_succ])
  go_cut [34] (fun v34 wc => ∃ (kq : Nat) (x34_7 : Bool), v34 = .bool x34_7 ∧ Aside0 (prolepsislaw06_LineTwice.j0 kq t217 a3 a4 x34_7 a1_0 a1_1 a1_2 a1_3 a1_4 a1_5 a1_6 a2_0 a2_1 a2_2 a2_3 a2_4 a2_5 a2_6 a5_0 a5_1 a5_2 = some r) ∧ Aside0 (kq ≤ k) ∧ Aside0 (Kd.R k26 26 wc w.heap.size (fun k_ => k_ ≠ gb214 ∧ k_ ≠ gb215) v218 t217) ∧ Aside0 (wc.heap[gb214]? = some (.cells #[.int .i32 a1_0, .int .i32 a1_1, .int .i32 a1_2, .int .u8 a1_3, .int .u8 a1_4, .int .u8 a1_5, .int .u8 a1_6] 26 (0, 0))) ∧ Aside0 (wc.heap[gb215]? = some (.cells #[.int .i32 a2_0, .int .i32 a2_1, .int .i32 a2_2, .int .u8 a2_3, .int .u8 a2_4, .int .u8 a2_5, .int .u8 a2_6] 26 (0, 0))) ∧ Aside0 (wc.heap[gb216]? = some (.cells #[.int .u8 a5_0, .int .u8 a5_1, .int .u8 a5_2] 24 (0, 0))) ∧ Aside0 (Below w.heap.size w wc))
  case first =>
    have H := HC8.out
    clear HC8
    by_cases c13 : a1_3 = 1
    · rw [if_pos c13] at H
      have c13b0 : (a1_3 == 1) = true := beq_iff_eq.mpr c13
      have c13b1 : (a1_3 != 1) = false := bne_eq_false_iff_eq.mpr c13
      clear c13
      (first | rw [c13b0] | (simp only [i64_w, i32_w]; rw [c13b0]) | skip)
      by_cases c14 : a2_3 = 1
      · rw [if_pos c14] at H
        have c14b0 : (a2_3 == 1) = true := beq_iff_eq.mpr c14
        have c14b1 : (a2_3 != 1) = false := bne_eq_false_iff_eq.mpr c14
        clear c14
        replace H := Option.bind_eq_some_iff.mp H
        obtain ⟨t220, A150, H⟩ := H
        replace H : (prolepsislaw06_LineTwice.j0 k t217 a3 a4 t220 a1_0 a1_1 a1_2 a1_3 a1_4 a1_5 a1_6 a2_0 a2_1 a2_2 a2_3 a2_4 a2_5 a2_6 a5_0 a5_1 a5_2) = some r := H
        have A15 := Aside0.mk A150
        clear A150
        have H' := Aside0.mk H
        clear H
        have hnb16 := NB214_215.out
        have hnc16 := NB215_214.out
        have hnb17 := NB214_216.out
        have hnc17 := NB216_214.out
        have hcz18_0 : w12.cell? ⟨gb214, 0, none⟩ = some (.int .i32 a1_0) := (blk_cell BK214.out 0).trans rfl
        have hcz18_1 : w12.cell? ⟨gb214, 1, none⟩ = some (.int .i32 a1_1) := (blk_cell BK214.out 1).trans rfl
        have hcz18_2 : w12.cell? ⟨gb214, 2, none⟩ = some (.int .i32 a1_2) := (blk_cell BK214.out 2).trans rfl
        have hcz18_3 : w12.cell? ⟨gb214, 3, none⟩ = some (.int .u8 a1_3) := (blk_cell BK214.out 3).trans rfl
        have hcz18_4 : w12.cell? ⟨gb214, 4, none⟩ = some (.int .u8 a1_4) := (blk_cell BK214.out 4).trans rfl
        have hcz18_5 : w12.cell? ⟨gb214, 5, none⟩ = some (.int .u8 a1_5) := (blk_cell BK214.out 5).trans rfl
        have hcz18_6 : w12.cell? ⟨gb214, 6, none⟩ = some (.int .u8 a1_6) := (blk_cell BK214.out 6).trans rfl
        have hfz18_0 := blk_frozen BK214.out 0
        have hfz18_1 := blk_frozen BK214.out 1
        have hfz18_2 := blk_frozen BK214.out 2
        have hfz18_3 := blk_frozen BK214.out 3
        have hfz18_4 := blk_frozen BK214.out 4
        have hfz18_5 := blk_frozen BK214.out 5
        have hfz18_6 := blk_frozen BK214.out 6
        have hnb19 := NB215_216.out
        have hnc19 := NB216_215.out
        have hcz20_0 : w12.cell? ⟨gb215, 0, none⟩ = some (.int .i32 a2_0) := (blk_cell BK215.out 0).trans rfl
        have hcz20_1 : w12.cell? ⟨gb215, 1, none⟩ = some (.int .i32 a2_1) := (blk_cell BK215.out 1).trans rfl
        have hcz20_2 : w12.cell? ⟨gb215, 2, none⟩ = some (.int .i32 a2_2) := (blk_cell BK215.out 2).trans rfl
        have hcz20_3 : w12.cell? ⟨gb215, 3, none⟩ = some (.int .u8 a2_3) := (blk_cell BK215.out 3).trans rfl
        have hcz20_4 : w12.cell? ⟨gb215, 4, none⟩ = some (.int .u8 a2_4) := (blk_cell BK215.out 4).trans rfl
        have hcz20_5 : w12.cell? ⟨gb215, 5, none⟩ = some (.int .u8 a2_5) := (blk_cell BK215.out 5).trans rfl
        have hcz20_6 : w12.cell? ⟨gb215, 6, none⟩ = some (.int .u8 a2_6) := (blk_cell BK215.out 6).trans rfl
        have hfz20_0 := blk_frozen BK215.out 0
        have hfz20_1 := blk_frozen BK215.out 1
        have hfz20_2 := blk_frozen BK215.out 2
        have hfz20_3 := blk_frozen BK215.out 3
        have hfz20_4 := blk_frozen BK215.out 4
        have hfz20_5 := blk_frozen BK215.out 5
        have hfz20_6 := blk_frozen BK215.out 6
        obtain ⟨Ao21, co21, eo21⟩ := Kd.R_slice HO219.out
        subst eo21
        go_wp2_with (first | (go_at_call 36; (with_reducible refine (line_Right.calls k _ _ t217 t220 _ ?side1 ?side2 A15.out).mono ?_); (case side1 => repeat (first | exact (Kd.R_reads' HO219.out).2.2 | (with_reducible refine Kd.C_alloc ?_ _) | (with_reducible refine Kd.C_drewN ?_ _) | (with_reducible refine Kd.C_drew ?_))); (case side2 => exact (Kd.R_reads' HO219.out).2.1); rintro e w22 ⟨rfl, hb⟩; have n0_ := Aside0.mk (Kd.R_below (by (with_reducible repeat (first | apply Kd.R_alloc | apply Kd.R_drewN | apply Kd.R_drew)); exact HO219.out) hb); have n1_ := Aside0.mk (blk_below (g := gb214) (o := .cells #[.int .i32 a1_0, .int .i32 a1_1, .int .i32 a1_2, .int .u8 a1_3, .int .u8 a1_4, .int .u8 a1_5, .int .u8 a1_6] 26 (0, 0)) (by (with_reducible repeat (first | refine blk_drewN ?_ _ | refine blk_drew ?_ | refine blk_alloc ?_ _)); exact BK214.out) hb); have n2_ := Aside0.mk (blk_below (g := gb215) (o := .cells #[.int .i32 a2_0, .int .i32 a2_1, .int .i32 a2_2, .int .u8 a2_3, .int .u8 a2_4, .int .u8 a2_5, .int .u8 a2_6] 26 (0, 0)) (by (with_reducible repeat (first | refine blk_drewN ?_ _ | refine blk_drew ?_ | refine blk_alloc ?_ _)); exact BK215.out) hb); have n3_ := Aside0.mk (blk_below (g := gb216) (o := .cells #[.int .u8 a5_0, .int .u8 a5_1, .int .u8 a5_2] 24 (0, 0)) (by (with_reducible repeat (first | refine blk_drewN ?_ _ | refine blk_drew ?_ | refine blk_alloc ?_ _)); exact BK216.out) hb); have n4_ := Aside0.mk (below_step (by repeat (first | (with_reducible first | exact HB.out | apply below_alloc | apply pw_below_drewN | apply below_drew1 | refine below_set ?_ GE214.out | refine below_set ?_ GE215.out | refine below_set ?_ GE216.out) | exact HB.out)) hb); clear HO219; clear BK214; clear BK215; clear BK216; clear HB; have HO219 := n0_; have BK214 := n1_; have BK215 := n2_; have BK216 := n3_; have HB := n4_; clear n0_ n1_ n2_ n3_ n4_; (try clear hb); (try clear hb2); (try clear hk); (try clear hi)))
        go_meet
        case rel => exact ⟨_, (t220), (by first | rfl | (simp; done) | (simp [*]; done)), H', ⟨by first | omega | exact Nat.le_refl _⟩, ⟨by (with_reducible repeat (first | apply Kd.R_alloc | apply Kd.R_drewN | apply Kd.R_drew)); exact Kd.R_mono HO219.out (fun _ hk => ⟨hk.1.2, hk.2⟩)⟩, ⟨by (with_reducible repeat (first | refine blk_drewN ?_ _ | refine blk_drew ?_ | refine blk_alloc ?_ _)); exact BK214.out⟩, ⟨by (with_reducible repeat (first | refine blk_drewN ?_ _ | refine blk_drew ?_ | refine blk_alloc ?_ _)); exact BK215.out⟩, ⟨by (with_reducible repeat (first | refine blk_drewN ?_ _ | refine blk_drew ?_ | refine blk_alloc ?_ _)); exact BK216.out⟩, ⟨by repeat (first | (with_reducible first | exact HB.out | apply below_alloc | apply pw_below_drewN | apply below_drew1 | refine below_set ?_ GE214.out | refine below_set ?_ GE215.out | refine below_set ?_ GE216.out) | exact HB.out)⟩⟩
      · rw [if_neg c14] at H
        have c14b0 : (a2_3 == 1) = false := beq_eq_false_iff_ne.mpr c14
        have c14b1 : (a2_3 != 1) = true := bne_iff_ne.mpr c14
        have H' := Aside0.mk H
        clear H
        have hnb23 := NB214_215.out
        have hnc23 := NB215_214.out
        have hnb24 := NB214_216.out
        have hnc24 := NB216_214.out
        have hcz25_0 : w12.cell? ⟨gb214, 0, none⟩ = some (.int .i32 a1_0) := (blk_cell BK214.out 0).trans rfl
        have hcz25_1 : w12.cell? ⟨gb214, 1, none⟩ = some (.int .i32 a1_1) := (blk_cell BK214.out 1).trans rfl
        have hcz25_2 : w12.cell? ⟨gb214, 2, none⟩ = some (.int .i32 a1_2) := (blk_cell BK214.out 2).trans rfl
        have hcz25_3 : w12.cell? ⟨gb214, 3, none⟩ = some (.int .u8 a1_3) := (blk_cell BK214.out 3).trans rfl
        have hcz25_4 : w12.cell? ⟨gb214, 4, none⟩ = some (.int .u8 a1_4) := (blk_cell BK214.out 4).trans rfl
        have hcz25_5 : w12.cell? ⟨gb214, 5, none⟩ = some (.int .u8 a1_5) := (blk_cell BK214.out 5).trans rfl
        have hcz25_6 : w12.cell? ⟨gb214, 6, none⟩ = some (.int .u8 a1_6) := (blk_cell BK214.out 6).trans rfl
        have hfz25_0 := blk_frozen BK214.out 0
        have hfz25_1 := blk_frozen BK214.out 1
        have hfz25_2 := blk_frozen BK214.out 2
        have hfz25_3 := blk_frozen BK214.out 3
        have hfz25_4 := blk_frozen BK214.out 4
        have hfz25_5 := blk_frozen BK214.out 5
        have hfz25_6 := blk_frozen BK214.out 6
        have hnb26 := NB215_216.out
        have hnc26 := NB216_215.out
        have hcz27_0 : w12.cell? ⟨gb215, 0, none⟩ = some (.int .i32 a2_0) := (blk_cell BK215.out 0).trans rfl
        have hcz27_1 : w12.cell? ⟨gb215, 1, none⟩ = some (.int .i32 a2_1) := (blk_cell BK215.out 1).trans rfl
        have hcz27_2 : w12.cell? ⟨gb215, 2, none⟩ = some (.int .i32 a2_2) := (blk_cell BK215.out 2).trans rfl
        have hcz27_3 : w12.cell? ⟨gb215, 3, none⟩ = some (.int .u8 a2_3) := (blk_cell BK215.out 3).trans rfl
        have hcz27_4 : w12.cell? ⟨gb215, 4, none⟩ = some (.int .u8 a2_4) := (blk_cell BK215.out 4).trans rfl
        have hcz27_5 : w12.cell? ⟨gb215, 5, none⟩ = some (.int .u8 a2_5) := (blk_cell BK215.out 5).trans rfl
        have hcz27_6 : w12.cell? ⟨gb215, 6, none⟩ = some (.int .u8 a2_6) := (blk_cell BK215.out 6).trans rfl
        have hfz27_0 := blk_frozen BK215.out 0
        have hfz27_1 := blk_frozen BK215.out 1
        have hfz27_2 := blk_frozen BK215.out 2
        have hfz27_3 := blk_frozen BK215.out 3
        have hfz27_4 := blk_frozen BK215.out 4
        have hfz27_5 := blk_frozen BK215.out 5
        have hfz27_6 := blk_frozen BK215.out 6
        go_wp2
        go_meet
        case rel => exact ⟨_, (false), (by first | rfl | (simp; done) | (simp [*]; done)), H', ⟨by first | omega | exact Nat.le_refl _⟩, ⟨by (with_reducible repeat (first | apply Kd.R_alloc | apply Kd.R_drewN | apply Kd.R_drew)); exact Kd.R_mono HO219.out (fun _ hk => ⟨hk.1.2, hk.2⟩)⟩, ⟨by (with_reducible repeat (first | refine blk_drewN ?_ _ | refine blk_drew ?_ | refine blk_alloc ?_ _)); exact BK214.out⟩, ⟨by (with_reducible repeat (first | refine blk_drewN ?_ _ | refine blk_drew ?_ | refine blk_alloc ?_ _)); exact BK215.out⟩, ⟨by (with_reducible repeat (first | refine blk_drewN ?_ _ | refine blk_drew ?_ | refine blk_alloc ?_ _)); exact BK216.out⟩, ⟨by repeat (first | (with_reducible first | exact HB.out | apply below_alloc | apply pw_below_drewN | apply below_drew1 | refine below_set ?_ GE214.out | refine below_set ?_ GE215.out | refine below_set ?_ GE216.out) | exact HB.out)⟩⟩
    · rw [if_neg c13] at H
      have c13b0 : (a1_3 == 1) = false := beq_eq_false_iff_ne.mpr c13
      have c13b1 : (a1_3 != 1) = true := bne_iff_ne.mpr c13
      (first | rw [c13b0] | (simp only [i64_w, i32_w]; rw [c13b0]) | skip)
      have H' := Aside0.mk H
      clear H
      have hnb28 := NB214_215.out
      have hnc28 := NB215_214.out
      have hnb29 := NB214_216.out
      have hnc29 := NB216_214.out
      have hcz30_0 : w12.cell? ⟨gb214, 0, none⟩ = some (.int .i32 a1_0) := (blk_cell BK214.out 0).trans rfl
      have hcz30_1 : w12.cell? ⟨gb214, 1, none⟩ = some (.int .i32 a1_1) := (blk_cell BK214.out 1).trans rfl
      have hcz30_2 : w12.cell? ⟨gb214, 2, none⟩ = some (.int .i32 a1_2) := (blk_cell BK214.out 2).trans rfl
      have hcz30_3 : w12.cell? ⟨gb214, 3, none⟩ = some (.int .u8 a1_3) := (blk_cell BK214.out 3).trans rfl
      have hcz30_4 : w12.cell? ⟨gb214, 4, none⟩ = some (.int .u8 a1_4) := (blk_cell BK214.out 4).trans rfl
      have hcz30_5 : w12.cell? ⟨gb214, 5, none⟩ = some (.int .u8 a1_5) := (blk_cell BK214.out 5).trans rfl
      have hcz30_6 : w12.cell? ⟨gb214, 6, none⟩ = some (.int .u8 a1_6) := (blk_cell BK214.out 6).trans rfl
      have hfz30_0 := blk_frozen BK214.out 0
      have hfz30_1 := blk_frozen BK214.out 1
      have hfz30_2 := blk_frozen BK214.out 2
      have hfz30_3 := blk_frozen BK214.out 3
      have hfz30_4 := blk_frozen BK214.out 4
      have hfz30_5 := blk_frozen BK214.out 5
      have hfz30_6 := blk_frozen BK214.out 6
      go_wp2
      go_meet
      case rel => exact ⟨_, (false), (by first | rfl | (simp; done) | (simp [*]; done)), H', ⟨by first | omega | exact Nat.le_refl _⟩, ⟨by (with_reducible repeat (first | apply Kd.R_alloc | apply Kd.R_drewN | apply Kd.R_drew)); exact Kd.R_mono HO219.out (fun _ hk => ⟨hk.1.2, hk.2⟩)⟩, ⟨by (with_reducible repeat (first | refine blk_drewN ?_ _ | refine blk_drew ?_ | refine blk_alloc ?_ _)); exact BK214.out⟩, ⟨by (with_reducible repeat (first | refine blk_drewN ?_ _ | refine blk_drew ?_ | refine blk_alloc ?_ _)); exact BK215.out⟩, ⟨by (with_reducible repeat (first | refine blk_drewN ?_ _ | refine blk_drew ?_ | refine blk_alloc ?_ _)); exact BK216.out⟩, ⟨by repeat (first | (with_reducible first | exact HB.out | apply below_alloc | apply pw_below_drewN | apply below_drew1 | refine below_set ?_ GE214.out | refine below_set ?_ GE215.out | refine below_set ?_ GE216.out) | exact HB.out)⟩⟩
  case rest =>
    clear HC8
    try clear c1
    try clear c2
    try clear p2
    try clear c3
    try clear c6
    try clear c13
    try clear c13b0
    try clear c13b1
    try clear c14
    try clear c14b0
    try clear c14b1
    try clear c16
    try clear c17
    try clear c19
    try clear c23
    try clear c24
    try clear c26
    try clear c28
    try clear c29
    try clear hcz18_0
    try clear hcz18_1
    try clear hcz18_2
    try clear hcz18_3
    try clear hcz18_4
    try clear hcz18_5
    try clear hcz18_6
    try clear hcz20_0
    try clear hcz20_1
    try clear hcz20_2
    try clear hcz20_3
    try clear hcz20_4
    try clear hcz20_5
    try clear hcz20_6
    try clear hcz25_0
    try clear hcz25_1
    try clear hcz25_2
    try clear hcz25_3
    try clear hcz25_4
    try clear hcz25_5
    try clear hcz25_6
    try clear hcz27_0
    try clear hcz27_1
    try clear hcz27_2
    try clear hcz27_3
    try clear hcz27_4
    try clear hcz27_5
    try clear hcz27_6
    try clear hcz30_0
    try clear hcz30_1
    try clear hcz30_2
    try clear hcz30_3
    try clear hcz30_4
    try clear hcz30_5
    try clear hcz30_6
    try clear hfz18_0
    try clear hfz18_1
    try clear hfz18_2
    try clear hfz18_3
    try clear hfz18_4
    try clear hfz18_5
    try clear hfz18_6
    try clear hfz20_0
    try clear hfz20_1
    try clear hfz20_2
    try clear hfz20_3
    try clear hfz20_4
    try clear hfz20_5
    try clear hfz20_6
    try clear hfz25_0
    try clear hfz25_1
    try clear hfz25_2
    try clear hfz25_3
    try clear hfz25_4
    try clear hfz25_5
    try clear hfz25_6
    try clear hfz27_0
    try clear hfz27_1
    try clear hfz27_2
    try clear hfz27_3
    try clear hfz27_4
    try clear hfz27_5
    try clear hfz27_6
    try clear hfz30_0
    try clear hfz30_1
    try clear hfz30_2
    try clear hfz30_3
    try clear hfz30_4
    try clear hfz30_5
    try clear hfz30_6
    obtain ⟨kq, x34_7, rfl, HA, HJ7, HO_0, BK214, BK215, BK216, HB⟩ := hcut
    cases kq with
    | zero => exact absurd HA.out (by simp [prolepsislaw06_LineTwice.j0])
    | succ kj7 =>
      have H := HA.out
      clear HA
      simp only [prolepsislaw06_LineTwice.j0] at H
      have HC31 := Aside0.mk H
      clear H
      go_upto_if 34 with (fail)
      go_cut [] (fun wc => ∃ (kq : Nat), Aside0 (prolepsislaw06_LineTwice.j1 kq t217 a3 a4 a5_0 a5_1 a5_2 = some r) ∧ Aside0 (kq ≤ kj7) ∧ Aside0 (Kd.R k26 26 wc w.heap.size (fun k_ => k_ ≠ gb214 ∧ k_ ≠ gb215) v218 t217) ∧ Aside0 (wc.heap[gb214]? = some (.cells #[.int .i32 a1_0, .int .i32 a1_1, .int .i32 a1_2, .int .u8 a1_3, .int .u8 a1_4, .int .u8 a1_5, .int .u8 a1_6] 26 (0, 0))) ∧ Aside0 (wc.heap[gb215]? = some (.cells #[.int .i32 a2_0, .int .i32 a2_1, .int .i32 a2_2, .int .u8 a2_3, .int .u8 a2_4, .int .u8 a2_5, .int .u8 a2_6] 26 (0, 0))) ∧ Aside0 (wc.heap[gb216]? = some (.cells #[.int .u8 a5_0, .int .u8 a5_1, .int .u8 a5_2] 24 (0, 0))) ∧ Aside0 (Below w.heap.size w wc))
      case first =>
        have H := HC31.out
        clear HC31
        by_cases c32 : x34_7 = true
        · subst c32
          have H1 : ((line_Put.f kj7 t217 a3 a1_0 a1_1 a1_2 a1_3 a1_4 a1_5 a1_6).bind fun bt221 => ((line_Put.f kj7 bt221.1 a3 a2_0 a2_1 a2_2 a2_3 a2_4 a2_5 a2_6).bind fun bt225 => ((line_Put.f kj7 t217 a3 a2_0 a2_1 a2_2 a2_3 a2_4 a2_5 a2_6).bind fun bt229 => (if bt221.2 = true then (if bt225.2 = true then (if bt229.2 = true then ((line_Same.f kj7 bt225.1 bt229.1).bind fun t233 => (if t233 = true then (prolepsislaw06_LineTwice.j1 kj7 t217 a3 a4 a5_0 a5_1 a5_2) else (some false))) else (prolepsislaw06_LineTwice.j1 kj7 t217 a3 a4 a5_0 a5_1 a5_2)) else (prolepsislaw06_LineTwice.j1 kj7 t217 a3 a4 a5_0 a5_1 a5_2)) else (prolepsislaw06_LineTwice.j1 kj7 t217 a3 a4 a5_0 a5_1 a5_2))))) = some r := by rw [if_pos rfl] at H; exact H
          clear H
          have H := H1
          clear H1
          replace H := Option.bind_eq_some_iff.mp H
          obtain ⟨⟨t221, t224⟩, A330, H⟩ := H
          replace H : ((line_Put.f kj7 t221 a3 a2_0 a2_1 a2_2 a2_3 a2_4 a2_5 a2_6).bind fun bt225 => ((line_Put.f kj7 t217 a3 a2_0 a2_1 a2_2 a2_3 a2_4 a2_5 a2_6).bind fun bt229 => (if t224 = true then (if bt225.2 = true then (if bt229.2 = true then ((line_Same.f kj7 bt225.1 bt229.1).bind fun t233 => (if t233 = true then (prolepsislaw06_LineTwice.j1 kj7 t217 a3 a4 a5_0 a5_1 a5_2) else (some false))) else (prolepsislaw06_LineTwice.j1 kj7 t217 a3 a4 a5_0 a5_1 a5_2)) else (prolepsislaw06_LineTwice.j1 kj7 t217 a3 a4 a5_0 a5_1 a5_2)) else (prolepsislaw06_LineTwice.j1 kj7 t217 a3 a4 a5_0 a5_1 a5_2)))) = some r := H
          have A33 := Aside0.mk A330
          clear A330
          replace H := Option.bind_eq_some_iff.mp H
          obtain ⟨⟨t225, t228⟩, A340, H⟩ := H
          replace H : ((line_Put.f kj7 t217 a3 a2_0 a2_1 a2_2 a2_3 a2_4 a2_5 a2_6).bind fun bt229 => (if t224 = true then (if t228 = true then (if bt229.2 = true then ((line_Same.f kj7 t225 bt229.1).bind fun t233 => (if t233 = true then (prolepsislaw06_LineTwice.j1 kj7 t217 a3 a4 a5_0 a5_1 a5_2) else (some false))) else (prolepsislaw06_LineTwice.j1 kj7 t217 a3 a4 a5_0 a5_1 a5_2)) else (prolepsislaw06_LineTwice.j1 kj7 t217 a3 a4 a5_0 a5_1 a5_2)) else (prolepsislaw06_LineTwice.j1 kj7 t217 a3 a4 a5_0 a5_1 a5_2))) = some r := H
          have A34 := Aside0.mk A340
          clear A340
          replace H := Option.bind_eq_some_iff.mp H
          obtain ⟨⟨t229, t232⟩, A350, H⟩ := H
          replace H : (if t224 = true then (if t228 = true then (if t232 = true then ((line_Same.f kj7 t225 t229).bind fun t233 => (if t233 = true then (prolepsislaw06_LineTwice.j1 kj7 t217 a3 a4 a5_0 a5_1 a5_2) else (some false))) else (prolepsislaw06_LineTwice.j1 kj7 t217 a3 a4 a5_0 a5_1 a5_2)) else (prolepsislaw06_LineTwice.j1 kj7 t217 a3 a4 a5_0 a5_1 a5_2)) else (prolepsislaw06_LineTwice.j1 kj7 t217 a3 a4 a5_0 a5_1 a5_2)) = some r := H
          have A35 := Aside0.mk A350
          clear A350
          by_cases c36 : t224 = true
          · subst c36
            have H1 : (if t228 = true then (if t232 = true then ((line_Same.f kj7 t225 t229).bind fun t233 => (if t233 = true then (prolepsislaw06_LineTwice.j1 kj7 t217 a3 a4 a5_0 a5_1 a5_2) else (some false))) else (prolepsislaw06_LineTwice.j1 kj7 t217 a3 a4 a5_0 a5_1 a5_2)) else (prolepsislaw06_LineTwice.j1 kj7 t217 a3 a4 a5_0 a5_1 a5_2)) = some r := by rw [if_pos rfl] at H; exact H
            clear H
            have H := H1
            clear H1
            by_cases c37 : t228 = true
            · subst c37
              have H1 : (if t232 = true then ((line_Same.f kj7 t225 t229).bind fun t233 => (if t233 = true then (prolepsislaw06_LineTwice.j1 kj7 t217 a3 a4 a5_0 a5_1 a5_2) else (some false))) else (prolepsislaw06_LineTwice.j1 kj7 t217 a3 a4 a5_0 a5_1 a5_2)) = some r := by rw [if_pos rfl] at H; exact H
              clear H
              have H := H1
              clear H1
              by_cases c38 : t232 = true
              · subst c38
                have H1 : ((line_Same.f kj7 t225 t229).bind fun t233 => (if t233 = true then (prolepsislaw06_LineTwice.j1 kj7 t217 a3 a4 a5_0 a5_1 a5_2) else (some false))) = some r := by rw [if_pos rfl] at H; exact H
                clear H
                have H := H1
                clear H1
                replace H := Option.bind_eq_some_iff.mp H
                obtain ⟨t233, A390, H⟩ := H
                replace H : (if t233 = true then (prolepsislaw06_LineTwice.j1 kj7 t217 a3 a4 a5_0 a5_1 a5_2) else (some false)) = some r := H
                have A39 := Aside0.mk A390
                clear A390
                by_cases c40 : t233 = true
                · subst c40
                  have H1 : (prolepsislaw06_LineTwice.j1 kj7 t217 a3 a4 a5_0 a5_1 a5_2) = some r := by rw [if_pos rfl] at H; exact H
                  clear H
                  have H := H1
                  clear H1
                  have H' := Aside0.mk H
                  clear H
                  have hnb41 := NB214_215.out
                  have hnc41 := NB215_214.out
                  have hnb42 := NB214_216.out
                  have hnc42 := NB216_214.out
                  have hcz43_0 : wc.cell? ⟨gb214, 0, none⟩ = some (.int .i32 a1_0) := (blk_cell BK214.out 0).trans rfl
                  have hcz43_1 : wc.cell? ⟨gb214, 1, none⟩ = some (.int .i32 a1_1) := (blk_cell BK214.out 1).trans rfl
                  have hcz43_2 : wc.cell? ⟨gb214, 2, none⟩ = some (.int .i32 a1_2) := (blk_cell BK214.out 2).trans rfl
                  have hcz43_3 : wc.cell? ⟨gb214, 3, none⟩ = some (.int .u8 a1_3) := (blk_cell BK214.out 3).trans rfl
                  have hcz43_4 : wc.cell? ⟨gb214, 4, none⟩ = some (.int .u8 a1_4) := (blk_cell BK214.out 4).trans rfl
                  have hcz43_5 : wc.cell? ⟨gb214, 5, none⟩ = some (.int .u8 a1_5) := (blk_cell BK214.out 5).trans rfl
                  have hcz43_6 : wc.cell? ⟨gb214, 6, none⟩ = some (.int .u8 a1_6) := (blk_cell BK214.out 6).trans rfl
                  have hfz43_0 := blk_frozen BK214.out 0
                  have hfz43_1 := blk_frozen BK214.out 1
                  have hfz43_2 := blk_frozen BK214.out 2
                  have hfz43_3 := blk_frozen BK214.out 3
                  have hfz43_4 := blk_frozen BK214.out 4
                  have hfz43_5 := blk_frozen BK214.out 5
                  have hfz43_6 := blk_frozen BK214.out 6
                  obtain ⟨Ao44, co44, eo44⟩ := Kd.R_slice HO_0.out
                  subst eo44
                  go_wp2_with (first | ((with_reducible refine gate_callee (f := 37) rfl ?_); refine goesL_ (some 39) rfl rfl Try.func37 (by kernel_rfl) rfl #[.slice Ao44 t217.length co44, .int .i64 a3, .agg #[.int .i32 a1_0, .int .i32 a1_1, .int .i32 a1_2, .int .u8 a1_3, .int .u8 a1_4, .int .u8 a1_5, .int .u8 a1_6]] rfl (by (try simp only [List.map_toArray, List.map_cons, List.map_nil]); first | done | rfl | (simp only [List.length_drop, List.length_take]; rfl)) ?_; (with_reducible refine (line_Put.calls kj7 _ _ t217 a3 a1_0 a1_1 a1_2 a1_3 a1_4 a1_5 a1_6 t221 true _ ?side1 ?side2 A33.out).mono ?_); (case side1 => repeat (first | exact (Kd.R_reads' HO_0.out).2.2 | (with_reducible refine Kd.C_alloc ?_ _) | (with_reducible refine Kd.C_drewN ?_ _) | (with_reducible refine Kd.C_drew ?_))); (case side2 => exact (Kd.R_reads' HO_0.out).2.1); rintro e w45 ⟨v222, rfl, ho0, hb⟩; refine ⟨_, rfl, ?_⟩; have n0_ := Aside0.mk (Kd.R_elder' (by (with_reducible repeat (first | apply Kd.R_alloc | apply Kd.R_drewN | apply Kd.R_drew)); exact HO_0.out) (Kd.R_base ho0) hb); have n1_ := Aside0.mk (Kd.R_lower (Kd.R_newB (Kd.R_newB (Kd.R_new' ho0 (Kd.R_lt (by (with_reducible repeat (first | apply Kd.R_alloc | apply Kd.R_drewN | apply Kd.R_drew)); exact HO_0.out))) (g := gb214) (o := .cells #[.int .i32 a1_0, .int .i32 a1_1, .int .i32 a1_2, .int .u8 a1_3, .int .u8 a1_4, .int .u8 a1_5, .int .u8 a1_6] 26 (0, 0)) (by (with_reducible repeat (first | refine blk_drewN ?_ _ | refine blk_drew ?_ | refine blk_alloc ?_ _)); exact BK214.out)) (g := gb215) (o := .cells #[.int .i32 a2_0, .int .i32 a2_1, .int .i32 a2_2, .int .u8 a2_3, .int .u8 a2_4, .int .u8 a2_5, .int .u8 a2_6] 26 (0, 0)) (by (with_reducible repeat (first | refine blk_drewN ?_ _ | refine blk_drew ?_ | refine blk_alloc ?_ _)); exact BK215.out)) (below_size (by repeat (first | (with_reducible first | exact HB.out | apply below_alloc | apply pw_below_drewN | apply below_drew1 | refine below_set ?_ GE214.out | refine below_set ?_ GE215.out | refine below_set ?_ GE216.out) | exact HB.out)))); have n2_ := Aside0.mk (blk_below (g := gb214) (o := .cells #[.int .i32 a1_0, .int .i32 a1_1, .int .i32 a1_2, .int .u8 a1_3, .int .u8 a1_4, .int .u8 a1_5, .int .u8 a1_6] 26 (0, 0)) (by (with_reducible repeat (first | refine blk_drewN ?_ _ | refine blk_drew ?_ | refine blk_alloc ?_ _)); exact BK214.out) hb); have n3_ := Aside0.mk (blk_below (g := gb215) (o := .cells #[.int .i32 a2_0, .int .i32 a2_1, .int .i32 a2_2, .int .u8 a2_3, .int .u8 a2_4, .int .u8 a2_5, .int .u8 a2_6] 26 (0, 0)) (by (with_reducible repeat (first | refine blk_drewN ?_ _ | refine blk_drew ?_ | refine blk_alloc ?_ _)); exact BK215.out) hb); have n4_ := Aside0.mk (blk_below (g := gb216) (o := .cells #[.int .u8 a5_0, .int .u8 a5_1, .int .u8 a5_2] 24 (0, 0)) (by (with_reducible repeat (first | refine blk_drewN ?_ _ | refine blk_drew ?_ | refine blk_alloc ?_ _)); exact BK216.out) hb); have n5_ := Aside0.mk (below_step (by repeat (first | (with_reducible first | exact HB.out | apply below_alloc | apply pw_below_drewN | apply below_drew1 | refine below_set ?_ GE214.out | refine below_set ?_ GE215.out | refine below_set ?_ GE216.out) | exact HB.out)) hb); clear HO_0; clear BK214; clear BK215; clear BK216; clear HB; have HO_0 := n0_; have HO223 := n1_; have BK214 := n2_; have BK215 := n3_; have BK216 := n4_; have HB := n5_; clear n0_ n1_ n2_ n3_ n4_ n5_; (try clear hb); (try clear hb2); (try clear hk); (try clear hi); (try clear ho0); have hnb46 := NB215_216.out; have hnc46 := NB216_215.out; have hcz47_0 : w45.cell? ⟨gb215, 0, none⟩ = some (.int .i32 a2_0) := (blk_cell BK215.out 0).trans rfl; have hcz47_1 : w45.cell? ⟨gb215, 1, none⟩ = some (.int .i32 a2_1) := (blk_cell BK215.out 1).trans rfl; have hcz47_2 : w45.cell? ⟨gb215, 2, none⟩ = some (.int .i32 a2_2) := (blk_cell BK215.out 2).trans rfl; have hcz47_3 : w45.cell? ⟨gb215, 3, none⟩ = some (.int .u8 a2_3) := (blk_cell BK215.out 3).trans rfl; have hcz47_4 : w45.cell? ⟨gb215, 4, none⟩ = some (.int .u8 a2_4) := (blk_cell BK215.out 4).trans rfl; have hcz47_5 : w45.cell? ⟨gb215, 5, none⟩ = some (.int .u8 a2_5) := (blk_cell BK215.out 5).trans rfl; have hcz47_6 : w45.cell? ⟨gb215, 6, none⟩ = some (.int .u8 a2_6) := (blk_cell BK215.out 6).trans rfl; have hfz47_0 := blk_frozen BK215.out 0; have hfz47_1 := blk_frozen BK215.out 1; have hfz47_2 := blk_frozen BK215.out 2; have hfz47_3 := blk_frozen BK215.out 3; have hfz47_4 := blk_frozen BK215.out 4; have hfz47_5 := blk_frozen BK215.out 5; have hfz47_6 := blk_frozen BK215.out 6; obtain ⟨Ao48, co48, eo48⟩ := Kd.R_slice HO223.out; subst eo48) | ((with_reducible refine gate_callee (f := 37) rfl ?_); refine goesL_ (some 46) rfl rfl Try.func37 (by kernel_rfl) rfl #[.slice Ao48 t221.length co48, .int .i64 a3, .agg #[.int .i32 a2_0, .int .i32 a2_1, .int .i32 a2_2, .int .u8 a2_3, .int .u8 a2_4, .int .u8 a2_5, .int .u8 a2_6]] rfl (by (try simp only [List.map_toArray, List.map_cons, List.map_nil]); first | done | rfl | (simp only [List.length_drop, List.length_take]; rfl)) ?_; (with_reducible refine (line_Put.calls kj7 _ _ t221 a3 a2_0 a2_1 a2_2 a2_3 a2_4 a2_5 a2_6 t225 true _ ?side1 ?side2 A34.out).mono ?_); (case side1 => repeat (first | exact (Kd.R_reads' HO223.out).2.2 | (with_reducible refine Kd.C_alloc ?_ _) | (with_reducible refine Kd.C_drewN ?_ _) | (with_reducible refine Kd.C_drew ?_))); (case side2 => exact (Kd.R_reads' HO223.out).2.1); rintro e w49 ⟨v226, rfl, ho0, hb⟩; refine ⟨_, rfl, ?_⟩; have n0_ := Aside0.mk (Kd.R_elder' (by (with_reducible repeat (first | apply Kd.R_alloc | apply Kd.R_drewN | apply Kd.R_drew)); exact HO_0.out) (Kd.R_base ho0) hb); have n1_ := Aside0.mk (Kd.R_elder' (by (with_reducible repeat (first | apply Kd.R_alloc | apply Kd.R_drewN | apply Kd.R_drew)); exact HO223.out) (Kd.R_base ho0) hb); have n2_ := Aside0.mk (Kd.R_lower (Kd.R_newB (Kd.R_newB (Kd.R_new' (Kd.R_new' ho0 (Kd.R_lt (by (with_reducible repeat (first | apply Kd.R_alloc | apply Kd.R_drewN | apply Kd.R_drew)); exact HO_0.out))) (Kd.R_lt (by (with_reducible repeat (first | apply Kd.R_alloc | apply Kd.R_drewN | apply Kd.R_drew)); exact HO223.out))) (g := gb214) (o := .cells #[.int .i32 a1_0, .int .i32 a1_1, .int .i32 a1_2, .int .u8 a1_3, .int .u8 a1_4, .int .u8 a1_5, .int .u8 a1_6] 26 (0, 0)) (by (with_reducible repeat (first | refine blk_drewN ?_ _ | refine blk_drew ?_ | refine blk_alloc ?_ _)); exact BK214.out)) (g := gb215) (o := .cells #[.int .i32 a2_0, .int .i32 a2_1, .int .i32 a2_2, .int .u8 a2_3, .int .u8 a2_4, .int .u8 a2_5, .int .u8 a2_6] 26 (0, 0)) (by (with_reducible repeat (first | refine blk_drewN ?_ _ | refine blk_drew ?_ | refine blk_alloc ?_ _)); exact BK215.out)) (below_size (by repeat (first | (with_reducible first | exact HB.out | apply below_alloc | apply pw_below_drewN | apply below_drew1 | refine below_set ?_ GE214.out | refine below_set ?_ GE215.out | refine below_set ?_ GE216.out) | exact HB.out)))); have n3_ := Aside0.mk (blk_below (g := gb214) (o := .cells #[.int .i32 a1_0, .int .i32 a1_1, .int .i32 a1_2, .int .u8 a1_3, .int .u8 a1_4, .int .u8 a1_5, .int .u8 a1_6] 26 (0, 0)) (by (with_reducible repeat (first | refine blk_drewN ?_ _ | refine blk_drew ?_ | refine blk_alloc ?_ _)); exact BK214.out) hb); have n4_ := Aside0.mk (blk_below (g := gb215) (o := .cells #[.int .i32 a2_0, .int .i32 a2_1, .int .i32 a2_2, .int .u8 a2_3, .int .u8 a2_4, .int .u8 a2_5, .int .u8 a2_6] 26 (0, 0)) (by (with_reducible repeat (first | refine blk_drewN ?_ _ | refine blk_drew ?_ | refine blk_alloc ?_ _)); exact BK215.out) hb); have n5_ := Aside0.mk (blk_below (g := gb216) (o := .cells #[.int .u8 a5_0, .int .u8 a5_1, .int .u8 a5_2] 24 (0, 0)) (by (with_reducible repeat (first | refine blk_drewN ?_ _ | refine blk_drew ?_ | refine blk_alloc ?_ _)); exact BK216.out) hb); have n6_ := Aside0.mk (below_step (by repeat (first | (with_reducible first | exact HB.out | apply below_alloc | apply pw_below_drewN | apply below_drew1 | refine below_set ?_ GE214.out | refine below_set ?_ GE215.out | refine below_set ?_ GE216.out) | exact HB.out)) hb); clear HO_0; clear HO223; clear BK214; clear BK215; clear BK216; clear HB; have HO_0 := n0_; have HO223 := n1_; have HO227 := n2_; have BK214 := n3_; have BK215 := n4_; have BK216 := n5_; have HB := n6_; clear n0_ n1_ n2_ n3_ n4_ n5_ n6_; (try clear hb); (try clear hb2); (try clear hk); (try clear hi); (try clear ho0); have hcz50_0 : w49.cell? ⟨gb215, 0, none⟩ = some (.int .i32 a2_0) := (blk_cell BK215.out 0).trans rfl; have hcz50_1 : w49.cell? ⟨gb215, 1, none⟩ = some (.int .i32 a2_1) := (blk_cell BK215.out 1).trans rfl; have hcz50_2 : w49.cell? ⟨gb215, 2, none⟩ = some (.int .i32 a2_2) := (blk_cell BK215.out 2).trans rfl; have hcz50_3 : w49.cell? ⟨gb215, 3, none⟩ = some (.int .u8 a2_3) := (blk_cell BK215.out 3).trans rfl; have hcz50_4 : w49.cell? ⟨gb215, 4, none⟩ = some (.int .u8 a2_4) := (blk_cell BK215.out 4).trans rfl; have hcz50_5 : w49.cell? ⟨gb215, 5, none⟩ = some (.int .u8 a2_5) := (blk_cell BK215.out 5).trans rfl; have hcz50_6 : w49.cell? ⟨gb215, 6, none⟩ = some (.int .u8 a2_6) := (blk_cell BK215.out 6).trans rfl; have hfz50_0 := blk_frozen BK215.out 0; have hfz50_1 := blk_frozen BK215.out 1; have hfz50_2 := blk_frozen BK215.out 2; have hfz50_3 := blk_frozen BK215.out 3; have hfz50_4 := blk_frozen BK215.out 4; have hfz50_5 := blk_frozen BK215.out 5; have hfz50_6 := blk_frozen BK215.out 6) | ((with_reducible refine gate_callee (f := 37) rfl ?_); refine goesL_ (some 53) rfl rfl Try.func37 (by kernel_rfl) rfl #[.slice Ao44 t217.length co44, .int .i64 a3, .agg #[.int .i32 a2_0, .int .i32 a2_1, .int .i32 a2_2, .int .u8 a2_3, .int .u8 a2_4, .int .u8 a2_5, .int .u8 a2_6]] rfl (by (try simp only [List.map_toArray, List.map_cons, List.map_nil]); first | done | rfl | (simp only [List.length_drop, List.length_take]; rfl)) ?_; (with_reducible refine (line_Put.calls kj7 _ _ t217 a3 a2_0 a2_1 a2_2 a2_3 a2_4 a2_5 a2_6 t229 true _ ?side1 ?side2 A35.out).mono ?_); (case side1 => repeat (first | exact (Kd.R_reads' HO_0.out).2.2 | (with_reducible refine Kd.C_alloc ?_ _) | (with_reducible refine Kd.C_drewN ?_ _) | (with_reducible refine Kd.C_drew ?_))); (case side2 => exact (Kd.R_reads' HO_0.out).2.1); rintro e w51 ⟨v230, rfl, ho0, hb⟩; refine ⟨_, rfl, ?_⟩; have n0_ := Aside0.mk (Kd.R_elder' (by (with_reducible repeat (first | apply Kd.R_alloc | apply Kd.R_drewN | apply Kd.R_drew)); exact HO_0.out) (Kd.R_base ho0) hb); have n1_ := Aside0.mk (Kd.R_elder' (by (with_reducible repeat (first | apply Kd.R_alloc | apply Kd.R_drewN | apply Kd.R_drew)); exact HO223.out) (Kd.R_base ho0) hb); have n2_ := Aside0.mk (Kd.R_elder' (by (with_reducible repeat (first | apply Kd.R_alloc | apply Kd.R_drewN | apply Kd.R_drew)); exact HO227.out) (Kd.R_base ho0) hb); have n3_ := Aside0.mk (Kd.R_lower (Kd.R_newB (Kd.R_newB (Kd.R_new' (Kd.R_new' (Kd.R_new' ho0 (Kd.R_lt (by (with_reducible repeat (first | apply Kd.R_alloc | apply Kd.R_drewN | apply Kd.R_drew)); exact HO_0.out))) (Kd.R_lt (by (with_reducible repeat (first | apply Kd.R_alloc | apply Kd.R_drewN | apply Kd.R_drew)); exact HO223.out))) (Kd.R_lt (by (with_reducible repeat (first | apply Kd.R_alloc | apply Kd.R_drewN | apply Kd.R_drew)); exact HO227.out))) (g := gb214) (o := .cells #[.int .i32 a1_0, .int .i32 a1_1, .int .i32 a1_2, .int .u8 a1_3, .int .u8 a1_4, .int .u8 a1_5, .int .u8 a1_6] 26 (0, 0)) (by (with_reducible repeat (first | refine blk_drewN ?_ _ | refine blk_drew ?_ | refine blk_alloc ?_ _)); exact BK214.out)) (g := gb215) (o := .cells #[.int .i32 a2_0, .int .i32 a2_1, .int .i32 a2_2, .int .u8 a2_3, .int .u8 a2_4, .int .u8 a2_5, .int .u8 a2_6] 26 (0, 0)) (by (with_reducible repeat (first | refine blk_drewN ?_ _ | refine blk_drew ?_ | refine blk_alloc ?_ _)); exact BK215.out)) (below_size (by repeat (first | (with_reducible first | exact HB.out | apply below_alloc | apply pw_below_drewN | apply below_drew1 | refine below_set ?_ GE214.out | refine below_set ?_ GE215.out | refine below_set ?_ GE216.out) | exact HB.out)))); have n4_ := Aside0.mk (blk_below (g := gb214) (o := .cells #[.int .i32 a1_0, .int .i32 a1_1, .int .i32 a1_2, .int .u8 a1_3, .int .u8 a1_4, .int .u8 a1_5, .int .u8 a1_6] 26 (0, 0)) (by (with_reducible repeat (first | refine blk_drewN ?_ _ | refine blk_drew ?_ | refine blk_alloc ?_ _)); exact BK214.out) hb); have n5_ := Aside0.mk (blk_below (g := gb215) (o := .cells #[.int .i32 a2_0, .int .i32 a2_1, .int .i32 a2_2, .int .u8 a2_3, .int .u8 a2_4, .int .u8 a2_5, .int .u8 a2_6] 26 (0, 0)) (by (with_reducible repeat (first | refine blk_drewN ?_ _ | refine blk_drew ?_ | refine blk_alloc ?_ _)); exact BK215.out) hb); have n6_ := Aside0.mk (blk_below (g := gb216) (o := .cells #[.int .u8 a5_0, .int .u8 a5_1, .int .u8 a5_2] 24 (0, 0)) (by (with_reducible repeat (first | refine blk_drewN ?_ _ | refine blk_drew ?_ | refine blk_alloc ?_ _)); exact BK216.out) hb); have n7_ := Aside0.mk (below_step (by repeat (first | (with_reducible first | exact HB.out | apply below_alloc | apply pw_below_drewN | apply below_drew1 | refine below_set ?_ GE214.out | refine below_set ?_ GE215.out | refine below_set ?_ GE216.out) | exact HB.out)) hb); clear HO_0; clear HO223; clear HO227; clear BK214; clear BK215; clear BK216; clear HB; have HO_0 := n0_; have HO223 := n1_; have HO227 := n2_; have HO231 := n3_; have BK214 := n4_; have BK215 := n5_; have BK216 := n6_; have HB := n7_; clear n0_ n1_ n2_ n3_ n4_ n5_ n6_ n7_; (try clear hb); (try clear hb2); (try clear hk); (try clear hi); (try clear ho0); obtain ⟨Ao52, co52, eo52⟩ := Kd.R_slice HO227.out; subst eo52; obtain ⟨Ao53, co53, eo53⟩ := Kd.R_slice HO231.out; subst eo53) | (go_at_call 38; (with_reducible refine (line_Same.calls kj7 _ _ t225 _ _ t229 true _ ?side1 ?side2 ?side3 ?side4 A39.out).mono ?_); (case side1 => repeat (first | exact (Kd.R_reads' HO227.out).2.2 | (with_reducible refine Kd.C_alloc ?_ _) | (with_reducible refine Kd.C_drewN ?_ _) | (with_reducible refine Kd.C_drew ?_))); (case side2 => exact (Kd.R_reads' HO227.out).2.1); (case side3 => repeat (first | exact (Kd.R_reads' HO231.out).2.2 | (with_reducible refine Kd.C_alloc ?_ _) | (with_reducible refine Kd.C_drewN ?_ _) | (with_reducible refine Kd.C_drew ?_))); (case side4 => exact (Kd.R_reads' HO231.out).2.1); rintro e w' ⟨rfl, ⟨nd, rfl⟩⟩))
                  go_meet
                  case rel => exact ⟨_, H', ⟨by have := HJ7.out; first | omega | exact Nat.le_refl _⟩, ⟨by (with_reducible repeat (first | apply Kd.R_alloc | apply Kd.R_drewN | apply Kd.R_drew)); exact Kd.R_mono HO_0.out (fun _ hk => ⟨hk.1.1.1.1, hk.1.1.1.2⟩)⟩, ⟨by (with_reducible repeat (first | refine blk_drewN ?_ _ | refine blk_drew ?_ | refine blk_alloc ?_ _)); exact BK214.out⟩, ⟨by (with_reducible repeat (first | refine blk_drewN ?_ _ | refine blk_drew ?_ | refine blk_alloc ?_ _)); exact BK215.out⟩, ⟨by (with_reducible repeat (first | refine blk_drewN ?_ _ | refine blk_drew ?_ | refine blk_alloc ?_ _)); exact BK216.out⟩, ⟨by repeat (first | (with_reducible first | exact HB.out | apply below_alloc | apply pw_below_drewN | apply below_drew1 | refine below_set ?_ GE214.out | refine below_set ?_ GE215.out | refine below_set ?_ GE216.out) | exact HB.out)⟩⟩
                · replace c40 := Bool.eq_false_iff.mpr c40
                  subst c40
                  have H1 : (some false) = some r := by rw [if_neg (show ¬ (false = true) by decide)] at H; exact H
                  clear H
                  have H := H1
                  clear H1
                  obtain rfl := Option.some.inj H
                  have hnb54 := NB214_215.out
                  have hnc54 := NB215_214.out
                  have hnb55 := NB214_216.out
                  have hnc55 := NB216_214.out
                  have hcz56_0 : wc.cell? ⟨gb214, 0, none⟩ = some (.int .i32 a1_0) := (blk_cell BK214.out 0).trans rfl
                  have hcz56_1 : wc.cell? ⟨gb214, 1, none⟩ = some (.int .i32 a1_1) := (blk_cell BK214.out 1).trans rfl
                  have hcz56_2 : wc.cell? ⟨gb214, 2, none⟩ = some (.int .i32 a1_2) := (blk_cell BK214.out 2).trans rfl
                  have hcz56_3 : wc.cell? ⟨gb214, 3, none⟩ = some (.int .u8 a1_3) := (blk_cell BK214.out 3).trans rfl
                  have hcz56_4 : wc.cell? ⟨gb214, 4, none⟩ = some (.int .u8 a1_4) := (blk_cell BK214.out 4).trans rfl
                  have hcz56_5 : wc.cell? ⟨gb214, 5, none⟩ = some (.int .u8 a1_5) := (blk_cell BK214.out 5).trans rfl
                  have hcz56_6 : wc.cell? ⟨gb214, 6, none⟩ = some (.int .u8 a1_6) := (blk_cell BK214.out 6).trans rfl
                  have hfz56_0 := blk_frozen BK214.out 0
                  have hfz56_1 := blk_frozen BK214.out 1
                  have hfz56_2 := blk_frozen BK214.out 2
                  have hfz56_3 := blk_frozen BK214.out 3
                  have hfz56_4 := blk_frozen BK214.out 4
                  have hfz56_5 := blk_frozen BK214.out 5
                  have hfz56_6 := blk_frozen BK214.out 6
                  obtain ⟨Ao57, co57, eo57⟩ := Kd.R_slice HO_0.out
                  subst eo57
                  go_wp2_with (first | ((with_reducible refine gate_callee (f := 37) rfl ?_); refine goesL_ (some 39) rfl rfl Try.func37 (by kernel_rfl) rfl #[.slice Ao57 t217.length co57, .int .i64 a3, .agg #[.int .i32 a1_0, .int .i32 a1_1, .int .i32 a1_2, .int .u8 a1_3, .int .u8 a1_4, .int .u8 a1_5, .int .u8 a1_6]] rfl (by (try simp only [List.map_toArray, List.map_cons, List.map_nil]); first | done | rfl | (simp only [List.length_drop, List.length_take]; rfl)) ?_; (with_reducible refine (line_Put.calls kj7 _ _ t217 a3 a1_0 a1_1 a1_2 a1_3 a1_4 a1_5 a1_6 t221 true _ ?side1 ?side2 A33.out).mono ?_); (case side1 => repeat (first | exact (Kd.R_reads' HO_0.out).2.2 | (with_reducible refine Kd.C_alloc ?_ _) | (with_reducible refine Kd.C_drewN ?_ _) | (with_reducible refine Kd.C_drew ?_))); (case side2 => exact (Kd.R_reads' HO_0.out).2.1); rintro e w58 ⟨v222, rfl, ho0, hb⟩; refine ⟨_, rfl, ?_⟩; have n0_ := Aside0.mk (Kd.R_elder' (by (with_reducible repeat (first | apply Kd.R_alloc | apply Kd.R_drewN | apply Kd.R_drew)); exact HO_0.out) (Kd.R_base ho0) hb); have n1_ := Aside0.mk (Kd.R_lower (Kd.R_newB (Kd.R_newB (Kd.R_new' ho0 (Kd.R_lt (by (with_reducible repeat (first | apply Kd.R_alloc | apply Kd.R_drewN | apply Kd.R_drew)); exact HO_0.out))) (g := gb214) (o := .cells #[.int .i32 a1_0, .int .i32 a1_1, .int .i32 a1_2, .int .u8 a1_3, .int .u8 a1_4, .int .u8 a1_5, .int .u8 a1_6] 26 (0, 0)) (by (with_reducible repeat (first | refine blk_drewN ?_ _ | refine blk_drew ?_ | refine blk_alloc ?_ _)); exact BK214.out)) (g := gb215) (o := .cells #[.int .i32 a2_0, .int .i32 a2_1, .int .i32 a2_2, .int .u8 a2_3, .int .u8 a2_4, .int .u8 a2_5, .int .u8 a2_6] 26 (0, 0)) (by (with_reducible repeat (first | refine blk_drewN ?_ _ | refine blk_drew ?_ | refine blk_alloc ?_ _)); exact BK215.out)) (below_size (by repeat (first | (with_reducible first | exact HB.out | apply below_alloc | apply pw_below_drewN | apply below_drew1 | refine below_set ?_ GE214.out | refine below_set ?_ GE215.out | refine below_set ?_ GE216.out) | exact HB.out)))); have n2_ := Aside0.mk (blk_below (g := gb214) (o := .cells #[.int .i32 a1_0, .int .i32 a1_1, .int .i32 a1_2, .int .u8 a1_3, .int .u8 a1_4, .int .u8 a1_5, .int .u8 a1_6] 26 (0, 0)) (by (with_reducible repeat (first | refine blk_drewN ?_ _ | refine blk_drew ?_ | refine blk_alloc ?_ _)); exact BK214.out) hb); have n3_ := Aside0.mk (blk_below (g := gb215) (o := .cells #[.int .i32 a2_0, .int .i32 a2_1, .int .i32 a2_2, .int .u8 a2_3, .int .u8 a2_4, .int .u8 a2_5, .int .u8 a2_6] 26 (0, 0)) (by (with_reducible repeat (first | refine blk_drewN ?_ _ | refine blk_drew ?_ | refine blk_alloc ?_ _)); exact BK215.out) hb); have n4_ := Aside0.mk (blk_below (g := gb216) (o := .cells #[.int .u8 a5_0, .int .u8 a5_1, .int .u8 a5_2] 24 (0, 0)) (by (with_reducible repeat (first | refine blk_drewN ?_ _ | refine blk_drew ?_ | refine blk_alloc ?_ _)); exact BK216.out) hb); have n5_ := Aside0.mk (below_step (by repeat (first | (with_reducible first | exact HB.out | apply below_alloc | apply pw_below_drewN | apply below_drew1 | refine below_set ?_ GE214.out | refine below_set ?_ GE215.out | refine below_set ?_ GE216.out) | exact HB.out)) hb); clear HO_0; clear BK214; clear BK215; clear BK216; clear HB; have HO_0 := n0_; have HO223 := n1_; have BK214 := n2_; have BK215 := n3_; have BK216 := n4_; have HB := n5_; clear n0_ n1_ n2_ n3_ n4_ n5_; (try clear hb); (try clear hb2); (try clear hk); (try clear hi); (try clear ho0); have hnb59 := NB215_216.out; have hnc59 := NB216_215.out; have hcz60_0 : w58.cell? ⟨gb215, 0, none⟩ = some (.int .i32 a2_0) := (blk_cell BK215.out 0).trans rfl; have hcz60_1 : w58.cell? ⟨gb215, 1, none⟩ = some (.int .i32 a2_1) := (blk_cell BK215.out 1).trans rfl; have hcz60_2 : w58.cell? ⟨gb215, 2, none⟩ = some (.int .i32 a2_2) := (blk_cell BK215.out 2).trans rfl; have hcz60_3 : w58.cell? ⟨gb215, 3, none⟩ = some (.int .u8 a2_3) := (blk_cell BK215.out 3).trans rfl; have hcz60_4 : w58.cell? ⟨gb215, 4, none⟩ = some (.int .u8 a2_4) := (blk_cell BK215.out 4).trans rfl; have hcz60_5 : w58.cell? ⟨gb215, 5, none⟩ = some (.int .u8 a2_5) := (blk_cell BK215.out 5).trans rfl; have hcz60_6 : w58.cell? ⟨gb215, 6, none⟩ = some (.int .u8 a2_6) := (blk_cell BK215.out 6).trans rfl; have hfz60_0 := blk_frozen BK215.out 0; have hfz60_1 := blk_frozen BK215.out 1; have hfz60_2 := blk_frozen BK215.out 2; have hfz60_3 := blk_frozen BK215.out 3; have hfz60_4 := blk_frozen BK215.out 4; have hfz60_5 := blk_frozen BK215.out 5; have hfz60_6 := blk_frozen BK215.out 6; obtain ⟨Ao61, co61, eo61⟩ := Kd.R_slice HO223.out; subst eo61) | ((with_reducible refine gate_callee (f := 37) rfl ?_); refine goesL_ (some 46) rfl rfl Try.func37 (by kernel_rfl) rfl #[.slice Ao61 t221.length co61, .int .i64 a3, .agg #[.int .i32 a2_0, .int .i32 a2_1, .int .i32 a2_2, .int .u8 a2_3, .int .u8 a2_4, .int .u8 a2_5, .int .u8 a2_6]] rfl (by (try simp only [List.map_toArray, List.map_cons, List.map_nil]); first | done | rfl | (simp only [List.length_drop, List.length_take]; rfl)) ?_; (with_reducible refine (line_Put.calls kj7 _ _ t221 a3 a2_0 a2_1 a2_2 a2_3 a2_4 a2_5 a2_6 t225 true _ ?side1 ?side2 A34.out).mono ?_); (case side1 => repeat (first | exact (Kd.R_reads' HO223.out).2.2 | (with_reducible refine Kd.C_alloc ?_ _) | (with_reducible refine Kd.C_drewN ?_ _) | (with_reducible refine Kd.C_drew ?_))); (case side2 => exact (Kd.R_reads' HO223.out).2.1); rintro e w62 ⟨v226, rfl, ho0, hb⟩; refine ⟨_, rfl, ?_⟩; have n0_ := Aside0.mk (Kd.R_elder' (by (with_reducible repeat (first | apply Kd.R_alloc | apply Kd.R_drewN | apply Kd.R_drew)); exact HO_0.out) (Kd.R_base ho0) hb); have n1_ := Aside0.mk (Kd.R_elder' (by (with_reducible repeat (first | apply Kd.R_alloc | apply Kd.R_drewN | apply Kd.R_drew)); exact HO223.out) (Kd.R_base ho0) hb); have n2_ := Aside0.mk (Kd.R_lower (Kd.R_newB (Kd.R_newB (Kd.R_new' (Kd.R_new' ho0 (Kd.R_lt (by (with_reducible repeat (first | apply Kd.R_alloc | apply Kd.R_drewN | apply Kd.R_drew)); exact HO_0.out))) (Kd.R_lt (by (with_reducible repeat (first | apply Kd.R_alloc | apply Kd.R_drewN | apply Kd.R_drew)); exact HO223.out))) (g := gb214) (o := .cells #[.int .i32 a1_0, .int .i32 a1_1, .int .i32 a1_2, .int .u8 a1_3, .int .u8 a1_4, .int .u8 a1_5, .int .u8 a1_6] 26 (0, 0)) (by (with_reducible repeat (first | refine blk_drewN ?_ _ | refine blk_drew ?_ | refine blk_alloc ?_ _)); exact BK214.out)) (g := gb215) (o := .cells #[.int .i32 a2_0, .int .i32 a2_1, .int .i32 a2_2, .int .u8 a2_3, .int .u8 a2_4, .int .u8 a2_5, .int .u8 a2_6] 26 (0, 0)) (by (with_reducible repeat (first | refine blk_drewN ?_ _ | refine blk_drew ?_ | refine blk_alloc ?_ _)); exact BK215.out)) (below_size (by repeat (first | (with_reducible first | exact HB.out | apply below_alloc | apply pw_below_drewN | apply below_drew1 | refine below_set ?_ GE214.out | refine below_set ?_ GE215.out | refine below_set ?_ GE216.out) | exact HB.out)))); have n3_ := Aside0.mk (blk_below (g := gb214) (o := .cells #[.int .i32 a1_0, .int .i32 a1_1, .int .i32 a1_2, .int .u8 a1_3, .int .u8 a1_4, .int .u8 a1_5, .int .u8 a1_6] 26 (0, 0)) (by (with_reducible repeat (first | refine blk_drewN ?_ _ | refine blk_drew ?_ | refine blk_alloc ?_ _)); exact BK214.out) hb); have n4_ := Aside0.mk (blk_below (g := gb215) (o := .cells #[.int .i32 a2_0, .int .i32 a2_1, .int .i32 a2_2, .int .u8 a2_3, .int .u8 a2_4, .int .u8 a2_5, .int .u8 a2_6] 26 (0, 0)) (by (with_reducible repeat (first | refine blk_drewN ?_ _ | refine blk_drew ?_ | refine blk_alloc ?_ _)); exact BK215.out) hb); have n5_ := Aside0.mk (blk_below (g := gb216) (o := .cells #[.int .u8 a5_0, .int .u8 a5_1, .int .u8 a5_2] 24 (0, 0)) (by (with_reducible repeat (first | refine blk_drewN ?_ _ | refine blk_drew ?_ | refine blk_alloc ?_ _)); exact BK216.out) hb); have n6_ := Aside0.mk (below_step (by repeat (first | (with_reducible first | exact HB.out | apply below_alloc | apply pw_below_drewN | apply below_drew1 | refine below_set ?_ GE214.out | refine below_set ?_ GE215.out | refine below_set ?_ GE216.out) | exact HB.out)) hb); clear HO_0; clear HO223; clear BK214; clear BK215; clear BK216; clear HB; have HO_0 := n0_; have HO223 := n1_; have HO227 := n2_; have BK214 := n3_; have BK215 := n4_; have BK216 := n5_; have HB := n6_; clear n0_ n1_ n2_ n3_ n4_ n5_ n6_; (try clear hb); (try clear hb2); (try clear hk); (try clear hi); (try clear ho0); have hcz63_0 : w62.cell? ⟨gb215, 0, none⟩ = some (.int .i32 a2_0) := (blk_cell BK215.out 0).trans rfl; have hcz63_1 : w62.cell? ⟨gb215, 1, none⟩ = some (.int .i32 a2_1) := (blk_cell BK215.out 1).trans rfl; have hcz63_2 : w62.cell? ⟨gb215, 2, none⟩ = some (.int .i32 a2_2) := (blk_cell BK215.out 2).trans rfl; have hcz63_3 : w62.cell? ⟨gb215, 3, none⟩ = some (.int .u8 a2_3) := (blk_cell BK215.out 3).trans rfl; have hcz63_4 : w62.cell? ⟨gb215, 4, none⟩ = some (.int .u8 a2_4) := (blk_cell BK215.out 4).trans rfl; have hcz63_5 : w62.cell? ⟨gb215, 5, none⟩ = some (.int .u8 a2_5) := (blk_cell BK215.out 5).trans rfl; have hcz63_6 : w62.cell? ⟨gb215, 6, none⟩ = some (.int .u8 a2_6) := (blk_cell BK215.out 6).trans rfl; have hfz63_0 := blk_frozen BK215.out 0; have hfz63_1 := blk_frozen BK215.out 1; have hfz63_2 := blk_frozen BK215.out 2; have hfz63_3 := blk_frozen BK215.out 3; have hfz63_4 := blk_frozen BK215.out 4; have hfz63_5 := blk_frozen BK215.out 5; have hfz63_6 := blk_frozen BK215.out 6) | ((with_reducible refine gate_callee (f := 37) rfl ?_); refine goesL_ (some 53) rfl rfl Try.func37 (by kernel_rfl) rfl #[.slice Ao57 t217.length co57, .int .i64 a3, .agg #[.int .i32 a2_0, .int .i32 a2_1, .int .i32 a2_2, .int .u8 a2_3, .int .u8 a2_4, .int .u8 a2_5, .int .u8 a2_6]] rfl (by (try simp only [List.map_toArray, List.map_cons, List.map_nil]); first | done | rfl | (simp only [List.length_drop, List.length_take]; rfl)) ?_; (with_reducible refine (line_Put.calls kj7 _ _ t217 a3 a2_0 a2_1 a2_2 a2_3 a2_4 a2_5 a2_6 t229 true _ ?side1 ?side2 A35.out).mono ?_); (case side1 => repeat (first | exact (Kd.R_reads' HO_0.out).2.2 | (with_reducible refine Kd.C_alloc ?_ _) | (with_reducible refine Kd.C_drewN ?_ _) | (with_reducible refine Kd.C_drew ?_))); (case side2 => exact (Kd.R_reads' HO_0.out).2.1); rintro e w64 ⟨v230, rfl, ho0, hb⟩; refine ⟨_, rfl, ?_⟩; have n0_ := Aside0.mk (Kd.R_elder' (by (with_reducible repeat (first | apply Kd.R_alloc | apply Kd.R_drewN | apply Kd.R_drew)); exact HO_0.out) (Kd.R_base ho0) hb); have n1_ := Aside0.mk (Kd.R_elder' (by (with_reducible repeat (first | apply Kd.R_alloc | apply Kd.R_drewN | apply Kd.R_drew)); exact HO223.out) (Kd.R_base ho0) hb); have n2_ := Aside0.mk (Kd.R_elder' (by (with_reducible repeat (first | apply Kd.R_alloc | apply Kd.R_drewN | apply Kd.R_drew)); exact HO227.out) (Kd.R_base ho0) hb); have n3_ := Aside0.mk (Kd.R_lower (Kd.R_newB (Kd.R_newB (Kd.R_new' (Kd.R_new' (Kd.R_new' ho0 (Kd.R_lt (by (with_reducible repeat (first | apply Kd.R_alloc | apply Kd.R_drewN | apply Kd.R_drew)); exact HO_0.out))) (Kd.R_lt (by (with_reducible repeat (first | apply Kd.R_alloc | apply Kd.R_drewN | apply Kd.R_drew)); exact HO223.out))) (Kd.R_lt (by (with_reducible repeat (first | apply Kd.R_alloc | apply Kd.R_drewN | apply Kd.R_drew)); exact HO227.out))) (g := gb214) (o := .cells #[.int .i32 a1_0, .int .i32 a1_1, .int .i32 a1_2, .int .u8 a1_3, .int .u8 a1_4, .int .u8 a1_5, .int .u8 a1_6] 26 (0, 0)) (by (with_reducible repeat (first | refine blk_drewN ?_ _ | refine blk_drew ?_ | refine blk_alloc ?_ _)); exact BK214.out)) (g := gb215) (o := .cells #[.int .i32 a2_0, .int .i32 a2_1, .int .i32 a2_2, .int .u8 a2_3, .int .u8 a2_4, .int .u8 a2_5, .int .u8 a2_6] 26 (0, 0)) (by (with_reducible repeat (first | refine blk_drewN ?_ _ | refine blk_drew ?_ | refine blk_alloc ?_ _)); exact BK215.out)) (below_size (by repeat (first | (with_reducible first | exact HB.out | apply below_alloc | apply pw_below_drewN | apply below_drew1 | refine below_set ?_ GE214.out | refine below_set ?_ GE215.out | refine below_set ?_ GE216.out) | exact HB.out)))); have n4_ := Aside0.mk (blk_below (g := gb214) (o := .cells #[.int .i32 a1_0, .int .i32 a1_1, .int .i32 a1_2, .int .u8 a1_3, .int .u8 a1_4, .int .u8 a1_5, .int .u8 a1_6] 26 (0, 0)) (by (with_reducible repeat (first | refine blk_drewN ?_ _ | refine blk_drew ?_ | refine blk_alloc ?_ _)); exact BK214.out) hb); have n5_ := Aside0.mk (blk_below (g := gb215) (o := .cells #[.int .i32 a2_0, .int .i32 a2_1, .int .i32 a2_2, .int .u8 a2_3, .int .u8 a2_4, .int .u8 a2_5, .int .u8 a2_6] 26 (0, 0)) (by (with_reducible repeat (first | refine blk_drewN ?_ _ | refine blk_drew ?_ | refine blk_alloc ?_ _)); exact BK215.out) hb); have n6_ := Aside0.mk (blk_below (g := gb216) (o := .cells #[.int .u8 a5_0, .int .u8 a5_1, .int .u8 a5_2] 24 (0, 0)) (by (with_reducible repeat (first | refine blk_drewN ?_ _ | refine blk_drew ?_ | refine blk_alloc ?_ _)); exact BK216.out) hb); have n7_ := Aside0.mk (below_step (by repeat (first | (with_reducible first | exact HB.out | apply below_alloc | apply pw_below_drewN | apply below_drew1 | refine below_set ?_ GE214.out | refine below_set ?_ GE215.out | refine below_set ?_ GE216.out) | exact HB.out)) hb); clear HO_0; clear HO223; clear HO227; clear BK214; clear BK215; clear BK216; clear HB; have HO_0 := n0_; have HO223 := n1_; have HO227 := n2_; have HO231 := n3_; have BK214 := n4_; have BK215 := n5_; have BK216 := n6_; have HB := n7_; clear n0_ n1_ n2_ n3_ n4_ n5_ n6_ n7_; (try clear hb); (try clear hb2); (try clear hk); (try clear hi); (try clear ho0); obtain ⟨Ao65, co65, eo65⟩ := Kd.R_slice HO227.out; subst eo65; obtain ⟨Ao66, co66, eo66⟩ := Kd.R_slice HO231.out; subst eo66) | (go_at_call 38; (with_reducible refine (line_Same.calls kj7 _ _ t225 _ _ t229 false _ ?side1 ?side2 ?side3 ?side4 A39.out).mono ?_); (case side1 => repeat (first | exact (Kd.R_reads' HO227.out).2.2 | (with_reducible refine Kd.C_alloc ?_ _) | (with_reducible refine Kd.C_drewN ?_ _) | (with_reducible refine Kd.C_drew ?_))); (case side2 => exact (Kd.R_reads' HO227.out).2.1); (case side3 => repeat (first | exact (Kd.R_reads' HO231.out).2.2 | (with_reducible refine Kd.C_alloc ?_ _) | (with_reducible refine Kd.C_drewN ?_ _) | (with_reducible refine Kd.C_drew ?_))); (case side4 => exact (Kd.R_reads' HO231.out).2.1); rintro e w' ⟨rfl, ⟨nd, rfl⟩⟩))
                  go_ret
                  exact ⟨by first | rfl | (simp [errW_none, errW_some] <;> rfl) | (simp [*, errW_none, errW_some] <;> rfl), by repeat (first | (with_reducible first | exact HB.out | apply below_alloc | apply pw_below_drewN | apply below_drew1 | refine below_set ?_ GE214.out | refine below_set ?_ GE215.out | refine below_set ?_ GE216.out) | exact HB.out)⟩
              · replace c38 := Bool.eq_false_iff.mpr c38
                subst c38
                have H1 : (prolepsislaw06_LineTwice.j1 kj7 t217 a3 a4 a5_0 a5_1 a5_2) = some r := by rw [if_neg (show ¬ (false = true) by decide)] at H; exact H
                clear H
                have H := H1
                clear H1
                have H' := Aside0.mk H
                clear H
                have hnb67 := NB214_215.out
                have hnc67 := NB215_214.out
                have hnb68 := NB214_216.out
                have hnc68 := NB216_214.out
                have hcz69_0 : wc.cell? ⟨gb214, 0, none⟩ = some (.int .i32 a1_0) := (blk_cell BK214.out 0).trans rfl
                have hcz69_1 : wc.cell? ⟨gb214, 1, none⟩ = some (.int .i32 a1_1) := (blk_cell BK214.out 1).trans rfl
                have hcz69_2 : wc.cell? ⟨gb214, 2, none⟩ = some (.int .i32 a1_2) := (blk_cell BK214.out 2).trans rfl
                have hcz69_3 : wc.cell? ⟨gb214, 3, none⟩ = some (.int .u8 a1_3) := (blk_cell BK214.out 3).trans rfl
                have hcz69_4 : wc.cell? ⟨gb214, 4, none⟩ = some (.int .u8 a1_4) := (blk_cell BK214.out 4).trans rfl
                have hcz69_5 : wc.cell? ⟨gb214, 5, none⟩ = some (.int .u8 a1_5) := (blk_cell BK214.out 5).trans rfl
                have hcz69_6 : wc.cell? ⟨gb214, 6, none⟩ = some (.int .u8 a1_6) := (blk_cell BK214.out 6).trans rfl
                have hfz69_0 := blk_frozen BK214.out 0
                have hfz69_1 := blk_frozen BK214.out 1
                have hfz69_2 := blk_frozen BK214.out 2
                have hfz69_3 := blk_frozen BK214.out 3
                have hfz69_4 := blk_frozen BK214.out 4
                have hfz69_5 := blk_frozen BK214.out 5
                have hfz69_6 := blk_frozen BK214.out 6
                obtain ⟨Ao70, co70, eo70⟩ := Kd.R_slice HO_0.out
                subst eo70
                go_wp2_with (first | ((with_reducible refine gate_callee (f := 37) rfl ?_); refine goesL_ (some 39) rfl rfl Try.func37 (by kernel_rfl) rfl #[.slice Ao70 t217.length co70, .int .i64 a3, .agg #[.int .i32 a1_0, .int .i32 a1_1, .int .i32 a1_2, .int .u8 a1_3, .int .u8 a1_4, .int .u8 a1_5, .int .u8 a1_6]] rfl (by (try simp only [List.map_toArray, List.map_cons, List.map_nil]); first | done | rfl | (simp only [List.length_drop, List.length_take]; rfl)) ?_; (with_reducible refine (line_Put.calls kj7 _ _ t217 a3 a1_0 a1_1 a1_2 a1_3 a1_4 a1_5 a1_6 t221 true _ ?side1 ?side2 A33.out).mono ?_); (case side1 => repeat (first | exact (Kd.R_reads' HO_0.out).2.2 | (with_reducible refine Kd.C_alloc ?_ _) | (with_reducible refine Kd.C_drewN ?_ _) | (with_reducible refine Kd.C_drew ?_))); (case side2 => exact (Kd.R_reads' HO_0.out).2.1); rintro e w71 ⟨v222, rfl, ho0, hb⟩; refine ⟨_, rfl, ?_⟩; have n0_ := Aside0.mk (Kd.R_elder' (by (with_reducible repeat (first | apply Kd.R_alloc | apply Kd.R_drewN | apply Kd.R_drew)); exact HO_0.out) (Kd.R_base ho0) hb); have n1_ := Aside0.mk (Kd.R_lower (Kd.R_newB (Kd.R_newB (Kd.R_new' ho0 (Kd.R_lt (by (with_reducible repeat (first | apply Kd.R_alloc | apply Kd.R_drewN | apply Kd.R_drew)); exact HO_0.out))) (g := gb214) (o := .cells #[.int .i32 a1_0, .int .i32 a1_1, .int .i32 a1_2, .int .u8 a1_3, .int .u8 a1_4, .int .u8 a1_5, .int .u8 a1_6] 26 (0, 0)) (by (with_reducible repeat (first | refine blk_drewN ?_ _ | refine blk_drew ?_ | refine blk_alloc ?_ _)); exact BK214.out)) (g := gb215) (o := .cells #[.int .i32 a2_0, .int .i32 a2_1, .int .i32 a2_2, .int .u8 a2_3, .int .u8 a2_4, .int .u8 a2_5, .int .u8 a2_6] 26 (0, 0)) (by (with_reducible repeat (first | refine blk_drewN ?_ _ | refine blk_drew ?_ | refine blk_alloc ?_ _)); exact BK215.out)) (below_size (by repeat (first | (with_reducible first | exact HB.out | apply below_alloc | apply pw_below_drewN | apply below_drew1 | refine below_set ?_ GE214.out | refine below_set ?_ GE215.out | refine below_set ?_ GE216.out) | exact HB.out)))); have n2_ := Aside0.mk (blk_below (g := gb214) (o := .cells #[.int .i32 a1_0, .int .i32 a1_1, .int .i32 a1_2, .int .u8 a1_3, .int .u8 a1_4, .int .u8 a1_5, .int .u8 a1_6] 26 (0, 0)) (by (with_reducible repeat (first | refine blk_drewN ?_ _ | refine blk_drew ?_ | refine blk_alloc ?_ _)); exact BK214.out) hb); have n3_ := Aside0.mk (blk_below (g := gb215) (o := .cells #[.int .i32 a2_0, .int .i32 a2_1, .int .i32 a2_2, .int .u8 a2_3, .int .u8 a2_4, .int .u8 a2_5, .int .u8 a2_6] 26 (0, 0)) (by (with_reducible repeat (first | refine blk_drewN ?_ _ | refine blk_drew ?_ | refine blk_alloc ?_ _)); exact BK215.out) hb); have n4_ := Aside0.mk (blk_below (g := gb216) (o := .cells #[.int .u8 a5_0, .int .u8 a5_1, .int .u8 a5_2] 24 (0, 0)) (by (with_reducible repeat (first | refine blk_drewN ?_ _ | refine blk_drew ?_ | refine blk_alloc ?_ _)); exact BK216.out) hb); have n5_ := Aside0.mk (below_step (by repeat (first | (with_reducible first | exact HB.out | apply below_alloc | apply pw_below_drewN | apply below_drew1 | refine below_set ?_ GE214.out | refine below_set ?_ GE215.out | refine below_set ?_ GE216.out) | exact HB.out)) hb); clear HO_0; clear BK214; clear BK215; clear BK216; clear HB; have HO_0 := n0_; have HO223 := n1_; have BK214 := n2_; have BK215 := n3_; have BK216 := n4_; have HB := n5_; clear n0_ n1_ n2_ n3_ n4_ n5_; (try clear hb); (try clear hb2); (try clear hk); (try clear hi); (try clear ho0); have hnb72 := NB215_216.out; have hnc72 := NB216_215.out; have hcz73_0 : w71.cell? ⟨gb215, 0, none⟩ = some (.int .i32 a2_0) := (blk_cell BK215.out 0).trans rfl; have hcz73_1 : w71.cell? ⟨gb215, 1, none⟩ = some (.int .i32 a2_1) := (blk_cell BK215.out 1).trans rfl; have hcz73_2 : w71.cell? ⟨gb215, 2, none⟩ = some (.int .i32 a2_2) := (blk_cell BK215.out 2).trans rfl; have hcz73_3 : w71.cell? ⟨gb215, 3, none⟩ = some (.int .u8 a2_3) := (blk_cell BK215.out 3).trans rfl; have hcz73_4 : w71.cell? ⟨gb215, 4, none⟩ = some (.int .u8 a2_4) := (blk_cell BK215.out 4).trans rfl; have hcz73_5 : w71.cell? ⟨gb215, 5, none⟩ = some (.int .u8 a2_5) := (blk_cell BK215.out 5).trans rfl; have hcz73_6 : w71.cell? ⟨gb215, 6, none⟩ = some (.int .u8 a2_6) := (blk_cell BK215.out 6).trans rfl; have hfz73_0 := blk_frozen BK215.out 0; have hfz73_1 := blk_frozen BK215.out 1; have hfz73_2 := blk_frozen BK215.out 2; have hfz73_3 := blk_frozen BK215.out 3; have hfz73_4 := blk_frozen BK215.out 4; have hfz73_5 := blk_frozen BK215.out 5; have hfz73_6 := blk_frozen BK215.out 6; obtain ⟨Ao74, co74, eo74⟩ := Kd.R_slice HO223.out; subst eo74) | ((with_reducible refine gate_callee (f := 37) rfl ?_); refine goesL_ (some 46) rfl rfl Try.func37 (by kernel_rfl) rfl #[.slice Ao74 t221.length co74, .int .i64 a3, .agg #[.int .i32 a2_0, .int .i32 a2_1, .int .i32 a2_2, .int .u8 a2_3, .int .u8 a2_4, .int .u8 a2_5, .int .u8 a2_6]] rfl (by (try simp only [List.map_toArray, List.map_cons, List.map_nil]); first | done | rfl | (simp only [List.length_drop, List.length_take]; rfl)) ?_; (with_reducible refine (line_Put.calls kj7 _ _ t221 a3 a2_0 a2_1 a2_2 a2_3 a2_4 a2_5 a2_6 t225 true _ ?side1 ?side2 A34.out).mono ?_); (case side1 => repeat (first | exact (Kd.R_reads' HO223.out).2.2 | (with_reducible refine Kd.C_alloc ?_ _) | (with_reducible refine Kd.C_drewN ?_ _) | (with_reducible refine Kd.C_drew ?_))); (case side2 => exact (Kd.R_reads' HO223.out).2.1); rintro e w75 ⟨v226, rfl, ho0, hb⟩; refine ⟨_, rfl, ?_⟩; have n0_ := Aside0.mk (Kd.R_elder' (by (with_reducible repeat (first | apply Kd.R_alloc | apply Kd.R_drewN | apply Kd.R_drew)); exact HO_0.out) (Kd.R_base ho0) hb); have n1_ := Aside0.mk (Kd.R_elder' (by (with_reducible repeat (first | apply Kd.R_alloc | apply Kd.R_drewN | apply Kd.R_drew)); exact HO223.out) (Kd.R_base ho0) hb); have n2_ := Aside0.mk (Kd.R_lower (Kd.R_newB (Kd.R_newB (Kd.R_new' (Kd.R_new' ho0 (Kd.R_lt (by (with_reducible repeat (first | apply Kd.R_alloc | apply Kd.R_drewN | apply Kd.R_drew)); exact HO_0.out))) (Kd.R_lt (by (with_reducible repeat (first | apply Kd.R_alloc | apply Kd.R_drewN | apply Kd.R_drew)); exact HO223.out))) (g := gb214) (o := .cells #[.int .i32 a1_0, .int .i32 a1_1, .int .i32 a1_2, .int .u8 a1_3, .int .u8 a1_4, .int .u8 a1_5, .int .u8 a1_6] 26 (0, 0)) (by (with_reducible repeat (first | refine blk_drewN ?_ _ | refine blk_drew ?_ | refine blk_alloc ?_ _)); exact BK214.out)) (g := gb215) (o := .cells #[.int .i32 a2_0, .int .i32 a2_1, .int .i32 a2_2, .int .u8 a2_3, .int .u8 a2_4, .int .u8 a2_5, .int .u8 a2_6] 26 (0, 0)) (by (with_reducible repeat (first | refine blk_drewN ?_ _ | refine blk_drew ?_ | refine blk_alloc ?_ _)); exact BK215.out)) (below_size (by repeat (first | (with_reducible first | exact HB.out | apply below_alloc | apply pw_below_drewN | apply below_drew1 | refine below_set ?_ GE214.out | refine below_set ?_ GE215.out | refine below_set ?_ GE216.out) | exact HB.out)))); have n3_ := Aside0.mk (blk_below (g := gb214) (o := .cells #[.int .i32 a1_0, .int .i32 a1_1, .int .i32 a1_2, .int .u8 a1_3, .int .u8 a1_4, .int .u8 a1_5, .int .u8 a1_6] 26 (0, 0)) (by (with_reducible repeat (first | refine blk_drewN ?_ _ | refine blk_drew ?_ | refine blk_alloc ?_ _)); exact BK214.out) hb); have n4_ := Aside0.mk (blk_below (g := gb215) (o := .cells #[.int .i32 a2_0, .int .i32 a2_1, .int .i32 a2_2, .int .u8 a2_3, .int .u8 a2_4, .int .u8 a2_5, .int .u8 a2_6] 26 (0, 0)) (by (with_reducible repeat (first | refine blk_drewN ?_ _ | refine blk_drew ?_ | refine blk_alloc ?_ _)); exact BK215.out) hb); have n5_ := Aside0.mk (blk_below (g := gb216) (o := .cells #[.int .u8 a5_0, .int .u8 a5_1, .int .u8 a5_2] 24 (0, 0)) (by (with_reducible repeat (first | refine blk_drewN ?_ _ | refine blk_drew ?_ | refine blk_alloc ?_ _)); exact BK216.out) hb); have n6_ := Aside0.mk (below_step (by repeat (first | (with_reducible first | exact HB.out | apply below_alloc | apply pw_below_drewN | apply below_drew1 | refine below_set ?_ GE214.out | refine below_set ?_ GE215.out | refine below_set ?_ GE216.out) | exact HB.out)) hb); clear HO_0; clear HO223; clear BK214; clear BK215; clear BK216; clear HB; have HO_0 := n0_; have HO223 := n1_; have HO227 := n2_; have BK214 := n3_; have BK215 := n4_; have BK216 := n5_; have HB := n6_; clear n0_ n1_ n2_ n3_ n4_ n5_ n6_; (try clear hb); (try clear hb2); (try clear hk); (try clear hi); (try clear ho0); have hcz76_0 : w75.cell? ⟨gb215, 0, none⟩ = some (.int .i32 a2_0) := (blk_cell BK215.out 0).trans rfl; have hcz76_1 : w75.cell? ⟨gb215, 1, none⟩ = some (.int .i32 a2_1) := (blk_cell BK215.out 1).trans rfl; have hcz76_2 : w75.cell? ⟨gb215, 2, none⟩ = some (.int .i32 a2_2) := (blk_cell BK215.out 2).trans rfl; have hcz76_3 : w75.cell? ⟨gb215, 3, none⟩ = some (.int .u8 a2_3) := (blk_cell BK215.out 3).trans rfl; have hcz76_4 : w75.cell? ⟨gb215, 4, none⟩ = some (.int .u8 a2_4) := (blk_cell BK215.out 4).trans rfl; have hcz76_5 : w75.cell? ⟨gb215, 5, none⟩ = some (.int .u8 a2_5) := (blk_cell BK215.out 5).trans rfl; have hcz76_6 : w75.cell? ⟨gb215, 6, none⟩ = some (.int .u8 a2_6) := (blk_cell BK215.out 6).trans rfl; have hfz76_0 := blk_frozen BK215.out 0; have hfz76_1 := blk_frozen BK215.out 1; have hfz76_2 := blk_frozen BK215.out 2; have hfz76_3 := blk_frozen BK215.out 3; have hfz76_4 := blk_frozen BK215.out 4; have hfz76_5 := blk_frozen BK215.out 5; have hfz76_6 := blk_frozen BK215.out 6) | ((with_reducible refine gate_callee (f := 37) rfl ?_); refine goesL_ (some 53) rfl rfl Try.func37 (by kernel_rfl) rfl #[.slice Ao70 t217.length co70, .int .i64 a3, .agg #[.int .i32 a2_0, .int .i32 a2_1, .int .i32 a2_2, .int .u8 a2_3, .int .u8 a2_4, .int .u8 a2_5, .int .u8 a2_6]] rfl (by (try simp only [List.map_toArray, List.map_cons, List.map_nil]); first | done | rfl | (simp only [List.length_drop, List.length_take]; rfl)) ?_; (with_reducible refine (line_Put.calls kj7 _ _ t217 a3 a2_0 a2_1 a2_2 a2_3 a2_4 a2_5 a2_6 t229 false _ ?side1 ?side2 A35.out).mono ?_); (case side1 => repeat (first | exact (Kd.R_reads' HO_0.out).2.2 | (with_reducible refine Kd.C_alloc ?_ _) | (with_reducible refine Kd.C_drewN ?_ _) | (with_reducible refine Kd.C_drew ?_))); (case side2 => exact (Kd.R_reads' HO_0.out).2.1); rintro e w77 ⟨v230, rfl, ho0, hb⟩; refine ⟨_, rfl, ?_⟩; have n0_ := Aside0.mk (Kd.R_elder' (by (with_reducible repeat (first | apply Kd.R_alloc | apply Kd.R_drewN | apply Kd.R_drew)); exact HO_0.out) (Kd.R_base ho0) hb); have n1_ := Aside0.mk (Kd.R_elder' (by (with_reducible repeat (first | apply Kd.R_alloc | apply Kd.R_drewN | apply Kd.R_drew)); exact HO223.out) (Kd.R_base ho0) hb); have n2_ := Aside0.mk (Kd.R_elder' (by (with_reducible repeat (first | apply Kd.R_alloc | apply Kd.R_drewN | apply Kd.R_drew)); exact HO227.out) (Kd.R_base ho0) hb); have n3_ := Aside0.mk (Kd.R_lower (Kd.R_newB (Kd.R_newB (Kd.R_new' (Kd.R_new' (Kd.R_new' ho0 (Kd.R_lt (by (with_reducible repeat (first | apply Kd.R_alloc | apply Kd.R_drewN | apply Kd.R_drew)); exact HO_0.out))) (Kd.R_lt (by (with_reducible repeat (first | apply Kd.R_alloc | apply Kd.R_drewN | apply Kd.R_drew)); exact HO223.out))) (Kd.R_lt (by (with_reducible repeat (first | apply Kd.R_alloc | apply Kd.R_drewN | apply Kd.R_drew)); exact HO227.out))) (g := gb214) (o := .cells #[.int .i32 a1_0, .int .i32 a1_1, .int .i32 a1_2, .int .u8 a1_3, .int .u8 a1_4, .int .u8 a1_5, .int .u8 a1_6] 26 (0, 0)) (by (with_reducible repeat (first | refine blk_drewN ?_ _ | refine blk_drew ?_ | refine blk_alloc ?_ _)); exact BK214.out)) (g := gb215) (o := .cells #[.int .i32 a2_0, .int .i32 a2_1, .int .i32 a2_2, .int .u8 a2_3, .int .u8 a2_4, .int .u8 a2_5, .int .u8 a2_6] 26 (0, 0)) (by (with_reducible repeat (first | refine blk_drewN ?_ _ | refine blk_drew ?_ | refine blk_alloc ?_ _)); exact BK215.out)) (below_size (by repeat (first | (with_reducible first | exact HB.out | apply below_alloc | apply pw_below_drewN | apply below_drew1 | refine below_set ?_ GE214.out | refine below_set ?_ GE215.out | refine below_set ?_ GE216.out) | exact HB.out)))); have n4_ := Aside0.mk (blk_below (g := gb214) (o := .cells #[.int .i32 a1_0, .int .i32 a1_1, .int .i32 a1_2, .int .u8 a1_3, .int .u8 a1_4, .int .u8 a1_5, .int .u8 a1_6] 26 (0, 0)) (by (with_reducible repeat (first | refine blk_drewN ?_ _ | refine blk_drew ?_ | refine blk_alloc ?_ _)); exact BK214.out) hb); have n5_ := Aside0.mk (blk_below (g := gb215) (o := .cells #[.int .i32 a2_0, .int .i32 a2_1, .int .i32 a2_2, .int .u8 a2_3, .int .u8 a2_4, .int .u8 a2_5, .int .u8 a2_6] 26 (0, 0)) (by (with_reducible repeat (first | refine blk_drewN ?_ _ | refine blk_drew ?_ | refine blk_alloc ?_ _)); exact BK215.out) hb); have n6_ := Aside0.mk (blk_below (g := gb216) (o := .cells #[.int .u8 a5_0, .int .u8 a5_1, .int .u8 a5_2] 24 (0, 0)) (by (with_reducible repeat (first | refine blk_drewN ?_ _ | refine blk_drew ?_ | refine blk_alloc ?_ _)); exact BK216.out) hb); have n7_ := Aside0.mk (below_step (by repeat (first | (with_reducible first | exact HB.out | apply below_alloc | apply pw_below_drewN | apply below_drew1 | refine below_set ?_ GE214.out | refine below_set ?_ GE215.out | refine below_set ?_ GE216.out) | exact HB.out)) hb); clear HO_0; clear HO223; clear HO227; clear BK214; clear BK215; clear BK216; clear HB; have HO_0 := n0_; have HO223 := n1_; have HO227 := n2_; have HO231 := n3_; have BK214 := n4_; have BK215 := n5_; have BK216 := n6_; have HB := n7_; clear n0_ n1_ n2_ n3_ n4_ n5_ n6_ n7_; (try clear hb); (try clear hb2); (try clear hk); (try clear hi); (try clear ho0)))
                go_meet
                case rel => exact ⟨_, H', ⟨by have := HJ7.out; first | omega | exact Nat.le_refl _⟩, ⟨by (with_reducible repeat (first | apply Kd.R_alloc | apply Kd.R_drewN | apply Kd.R_drew)); exact Kd.R_mono HO_0.out (fun _ hk => ⟨hk.1.1.1.1, hk.1.1.1.2⟩)⟩, ⟨by (with_reducible repeat (first | refine blk_drewN ?_ _ | refine blk_drew ?_ | refine blk_alloc ?_ _)); exact BK214.out⟩, ⟨by (with_reducible repeat (first | refine blk_drewN ?_ _ | refine blk_drew ?_ | refine blk_alloc ?_ _)); exact BK215.out⟩, ⟨by (with_reducible repeat (first | refine blk_drewN ?_ _ | refine blk_drew ?_ | refine blk_alloc ?_ _)); exact BK216.out⟩, ⟨by repeat (first | (with_reducible first | exact HB.out | apply below_alloc | apply pw_below_drewN | apply below_drew1 | refine below_set ?_ GE214.out | refine below_set ?_ GE215.out | refine below_set ?_ GE216.out) | exact HB.out)⟩⟩
            · replace c37 := Bool.eq_false_iff.mpr c37
              subst c37
              have H1 : (prolepsislaw06_LineTwice.j1 kj7 t217 a3 a4 a5_0 a5_1 a5_2) = some r := by rw [if_neg (show ¬ (false = true) by decide)] at H; exact H
              clear H
              have H := H1
              clear H1
              have H' := Aside0.mk H
              clear H
              have hnb78 := NB214_215.out
              have hnc78 := NB215_214.out
              have hnb79 := NB214_216.out
              have hnc79 := NB216_214.out
              have hcz80_0 : wc.cell? ⟨gb214, 0, none⟩ = some (.int .i32 a1_0) := (blk_cell BK214.out 0).trans rfl
              have hcz80_1 : wc.cell? ⟨gb214, 1, none⟩ = some (.int .i32 a1_1) := (blk_cell BK214.out 1).trans rfl
              have hcz80_2 : wc.cell? ⟨gb214, 2, none⟩ = some (.int .i32 a1_2) := (blk_cell BK214.out 2).trans rfl
              have hcz80_3 : wc.cell? ⟨gb214, 3, none⟩ = some (.int .u8 a1_3) := (blk_cell BK214.out 3).trans rfl
              have hcz80_4 : wc.cell? ⟨gb214, 4, none⟩ = some (.int .u8 a1_4) := (blk_cell BK214.out 4).trans rfl
              have hcz80_5 : wc.cell? ⟨gb214, 5, none⟩ = some (.int .u8 a1_5) := (blk_cell BK214.out 5).trans rfl
              have hcz80_6 : wc.cell? ⟨gb214, 6, none⟩ = some (.int .u8 a1_6) := (blk_cell BK214.out 6).trans rfl
              have hfz80_0 := blk_frozen BK214.out 0
              have hfz80_1 := blk_frozen BK214.out 1
              have hfz80_2 := blk_frozen BK214.out 2
              have hfz80_3 := blk_frozen BK214.out 3
              have hfz80_4 := blk_frozen BK214.out 4
              have hfz80_5 := blk_frozen BK214.out 5
              have hfz80_6 := blk_frozen BK214.out 6
              obtain ⟨Ao81, co81, eo81⟩ := Kd.R_slice HO_0.out
              subst eo81
              go_wp2_with (first | ((with_reducible refine gate_callee (f := 37) rfl ?_); refine goesL_ (some 39) rfl rfl Try.func37 (by kernel_rfl) rfl #[.slice Ao81 t217.length co81, .int .i64 a3, .agg #[.int .i32 a1_0, .int .i32 a1_1, .int .i32 a1_2, .int .u8 a1_3, .int .u8 a1_4, .int .u8 a1_5, .int .u8 a1_6]] rfl (by (try simp only [List.map_toArray, List.map_cons, List.map_nil]); first | done | rfl | (simp only [List.length_drop, List.length_take]; rfl)) ?_; (with_reducible refine (line_Put.calls kj7 _ _ t217 a3 a1_0 a1_1 a1_2 a1_3 a1_4 a1_5 a1_6 t221 true _ ?side1 ?side2 A33.out).mono ?_); (case side1 => repeat (first | exact (Kd.R_reads' HO_0.out).2.2 | (with_reducible refine Kd.C_alloc ?_ _) | (with_reducible refine Kd.C_drewN ?_ _) | (with_reducible refine Kd.C_drew ?_))); (case side2 => exact (Kd.R_reads' HO_0.out).2.1); rintro e w82 ⟨v222, rfl, ho0, hb⟩; refine ⟨_, rfl, ?_⟩; have n0_ := Aside0.mk (Kd.R_elder' (by (with_reducible repeat (first | apply Kd.R_alloc | apply Kd.R_drewN | apply Kd.R_drew)); exact HO_0.out) (Kd.R_base ho0) hb); have n1_ := Aside0.mk (Kd.R_lower (Kd.R_newB (Kd.R_newB (Kd.R_new' ho0 (Kd.R_lt (by (with_reducible repeat (first | apply Kd.R_alloc | apply Kd.R_drewN | apply Kd.R_drew)); exact HO_0.out))) (g := gb214) (o := .cells #[.int .i32 a1_0, .int .i32 a1_1, .int .i32 a1_2, .int .u8 a1_3, .int .u8 a1_4, .int .u8 a1_5, .int .u8 a1_6] 26 (0, 0)) (by (with_reducible repeat (first | refine blk_drewN ?_ _ | refine blk_drew ?_ | refine blk_alloc ?_ _)); exact BK214.out)) (g := gb215) (o := .cells #[.int .i32 a2_0, .int .i32 a2_1, .int .i32 a2_2, .int .u8 a2_3, .int .u8 a2_4, .int .u8 a2_5, .int .u8 a2_6] 26 (0, 0)) (by (with_reducible repeat (first | refine blk_drewN ?_ _ | refine blk_drew ?_ | refine blk_alloc ?_ _)); exact BK215.out)) (below_size (by repeat (first | (with_reducible first | exact HB.out | apply below_alloc | apply pw_below_drewN | apply below_drew1 | refine below_set ?_ GE214.out | refine below_set ?_ GE215.out | refine below_set ?_ GE216.out) | exact HB.out)))); have n2_ := Aside0.mk (blk_below (g := gb214) (o := .cells #[.int .i32 a1_0, .int .i32 a1_1, .int .i32 a1_2, .int .u8 a1_3, .int .u8 a1_4, .int .u8 a1_5, .int .u8 a1_6] 26 (0, 0)) (by (with_reducible repeat (first | refine blk_drewN ?_ _ | refine blk_drew ?_ | refine blk_alloc ?_ _)); exact BK214.out) hb); have n3_ := Aside0.mk (blk_below (g := gb215) (o := .cells #[.int .i32 a2_0, .int .i32 a2_1, .int .i32 a2_2, .int .u8 a2_3, .int .u8 a2_4, .int .u8 a2_5, .int .u8 a2_6] 26 (0, 0)) (by (with_reducible repeat (first | refine blk_drewN ?_ _ | refine blk_drew ?_ | refine blk_alloc ?_ _)); exact BK215.out) hb); have n4_ := Aside0.mk (blk_below (g := gb216) (o := .cells #[.int .u8 a5_0, .int .u8 a5_1, .int .u8 a5_2] 24 (0, 0)) (by (with_reducible repeat (first | refine blk_drewN ?_ _ | refine blk_drew ?_ | refine blk_alloc ?_ _)); exact BK216.out) hb); have n5_ := Aside0.mk (below_step (by repeat (first | (with_reducible first | exact HB.out | apply below_alloc | apply pw_below_drewN | apply below_drew1 | refine below_set ?_ GE214.out | refine below_set ?_ GE215.out | refine below_set ?_ GE216.out) | exact HB.out)) hb); clear HO_0; clear BK214; clear BK215; clear BK216; clear HB; have HO_0 := n0_; have HO223 := n1_; have BK214 := n2_; have BK215 := n3_; have BK216 := n4_; have HB := n5_; clear n0_ n1_ n2_ n3_ n4_ n5_; (try clear hb); (try clear hb2); (try clear hk); (try clear hi); (try clear ho0); have hnb83 := NB215_216.out; have hnc83 := NB216_215.out; have hcz84_0 : w82.cell? ⟨gb215, 0, none⟩ = some (.int .i32 a2_0) := (blk_cell BK215.out 0).trans rfl; have hcz84_1 : w82.cell? ⟨gb215, 1, none⟩ = some (.int .i32 a2_1) := (blk_cell BK215.out 1).trans rfl; have hcz84_2 : w82.cell? ⟨gb215, 2, none⟩ = some (.int .i32 a2_2) := (blk_cell BK215.out 2).trans rfl; have hcz84_3 : w82.cell? ⟨gb215, 3, none⟩ = some (.int .u8 a2_3) := (blk_cell BK215.out 3).trans rfl; have hcz84_4 : w82.cell? ⟨gb215, 4, none⟩ = some (.int .u8 a2_4) := (blk_cell BK215.out 4).trans rfl; have hcz84_5 : w82.cell? ⟨gb215, 5, none⟩ = some (.int .u8 a2_5) := (blk_cell BK215.out 5).trans rfl; have hcz84_6 : w82.cell? ⟨gb215, 6, none⟩ = some (.int .u8 a2_6) := (blk_cell BK215.out 6).trans rfl; have hfz84_0 := blk_frozen BK215.out 0; have hfz84_1 := blk_frozen BK215.out 1; have hfz84_2 := blk_frozen BK215.out 2; have hfz84_3 := blk_frozen BK215.out 3; have hfz84_4 := blk_frozen BK215.out 4; have hfz84_5 := blk_frozen BK215.out 5; have hfz84_6 := blk_frozen BK215.out 6; obtain ⟨Ao85, co85, eo85⟩ := Kd.R_slice HO223.out; subst eo85) | ((with_reducible refine gate_callee (f := 37) rfl ?_); refine goesL_ (some 46) rfl rfl Try.func37 (by kernel_rfl) rfl #[.slice Ao85 t221.length co85, .int .i64 a3, .agg #[.int .i32 a2_0, .int .i32 a2_1, .int .i32 a2_2, .int .u8 a2_3, .int .u8 a2_4, .int .u8 a2_5, .int .u8 a2_6]] rfl (by (try simp only [List.map_toArray, List.map_cons, List.map_nil]); first | done | rfl | (simp only [List.length_drop, List.length_take]; rfl)) ?_; (with_reducible refine (line_Put.calls kj7 _ _ t221 a3 a2_0 a2_1 a2_2 a2_3 a2_4 a2_5 a2_6 t225 false _ ?side1 ?side2 A34.out).mono ?_); (case side1 => repeat (first | exact (Kd.R_reads' HO223.out).2.2 | (with_reducible refine Kd.C_alloc ?_ _) | (with_reducible refine Kd.C_drewN ?_ _) | (with_reducible refine Kd.C_drew ?_))); (case side2 => exact (Kd.R_reads' HO223.out).2.1); rintro e w86 ⟨v226, rfl, ho0, hb⟩; refine ⟨_, rfl, ?_⟩; have n0_ := Aside0.mk (Kd.R_elder' (by (with_reducible repeat (first | apply Kd.R_alloc | apply Kd.R_drewN | apply Kd.R_drew)); exact HO_0.out) (Kd.R_base ho0) hb); have n1_ := Aside0.mk (Kd.R_elder' (by (with_reducible repeat (first | apply Kd.R_alloc | apply Kd.R_drewN | apply Kd.R_drew)); exact HO223.out) (Kd.R_base ho0) hb); have n2_ := Aside0.mk (Kd.R_lower (Kd.R_newB (Kd.R_newB (Kd.R_new' (Kd.R_new' ho0 (Kd.R_lt (by (with_reducible repeat (first | apply Kd.R_alloc | apply Kd.R_drewN | apply Kd.R_drew)); exact HO_0.out))) (Kd.R_lt (by (with_reducible repeat (first | apply Kd.R_alloc | apply Kd.R_drewN | apply Kd.R_drew)); exact HO223.out))) (g := gb214) (o := .cells #[.int .i32 a1_0, .int .i32 a1_1, .int .i32 a1_2, .int .u8 a1_3, .int .u8 a1_4, .int .u8 a1_5, .int .u8 a1_6] 26 (0, 0)) (by (with_reducible repeat (first | refine blk_drewN ?_ _ | refine blk_drew ?_ | refine blk_alloc ?_ _)); exact BK214.out)) (g := gb215) (o := .cells #[.int .i32 a2_0, .int .i32 a2_1, .int .i32 a2_2, .int .u8 a2_3, .int .u8 a2_4, .int .u8 a2_5, .int .u8 a2_6] 26 (0, 0)) (by (with_reducible repeat (first | refine blk_drewN ?_ _ | refine blk_drew ?_ | refine blk_alloc ?_ _)); exact BK215.out)) (below_size (by repeat (first | (with_reducible first | exact HB.out | apply below_alloc | apply pw_below_drewN | apply below_drew1 | refine below_set ?_ GE214.out | refine below_set ?_ GE215.out | refine below_set ?_ GE216.out) | exact HB.out)))); have n3_ := Aside0.mk (blk_below (g := gb214) (o := .cells #[.int .i32 a1_0, .int .i32 a1_1, .int .i32 a1_2, .int .u8 a1_3, .int .u8 a1_4, .int .u8 a1_5, .int .u8 a1_6] 26 (0, 0)) (by (with_reducible repeat (first | refine blk_drewN ?_ _ | refine blk_drew ?_ | refine blk_alloc ?_ _)); exact BK214.out) hb); have n4_ := Aside0.mk (blk_below (g := gb215) (o := .cells #[.int .i32 a2_0, .int .i32 a2_1, .int .i32 a2_2, .int .u8 a2_3, .int .u8 a2_4, .int .u8 a2_5, .int .u8 a2_6] 26 (0, 0)) (by (with_reducible repeat (first | refine blk_drewN ?_ _ | refine blk_drew ?_ | refine blk_alloc ?_ _)); exact BK215.out) hb); have n5_ := Aside0.mk (blk_below (g := gb216) (o := .cells #[.int .u8 a5_0, .int .u8 a5_1, .int .u8 a5_2] 24 (0, 0)) (by (with_reducible repeat (first | refine blk_drewN ?_ _ | refine blk_drew ?_ | refine blk_alloc ?_ _)); exact BK216.out) hb); have n6_ := Aside0.mk (below_step (by repeat (first | (with_reducible first | exact HB.out | apply below_alloc | apply pw_below_drewN | apply below_drew1 | refine below_set ?_ GE214.out | refine below_set ?_ GE215.out | refine below_set ?_ GE216.out) | exact HB.out)) hb); clear HO_0; clear HO223; clear BK214; clear BK215; clear BK216; clear HB; have HO_0 := n0_; have HO223 := n1_; have HO227 := n2_; have BK214 := n3_; have BK215 := n4_; have BK216 := n5_; have HB := n6_; clear n0_ n1_ n2_ n3_ n4_ n5_ n6_; (try clear hb); (try clear hb2); (try clear hk); (try clear hi); (try clear ho0); have hcz87_0 : w86.cell? ⟨gb215, 0, none⟩ = some (.int .i32 a2_0) := (blk_cell BK215.out 0).trans rfl; have hcz87_1 : w86.cell? ⟨gb215, 1, none⟩ = some (.int .i32 a2_1) := (blk_cell BK215.out 1).trans rfl; have hcz87_2 : w86.cell? ⟨gb215, 2, none⟩ = some (.int .i32 a2_2) := (blk_cell BK215.out 2).trans rfl; have hcz87_3 : w86.cell? ⟨gb215, 3, none⟩ = some (.int .u8 a2_3) := (blk_cell BK215.out 3).trans rfl; have hcz87_4 : w86.cell? ⟨gb215, 4, none⟩ = some (.int .u8 a2_4) := (blk_cell BK215.out 4).trans rfl; have hcz87_5 : w86.cell? ⟨gb215, 5, none⟩ = some (.int .u8 a2_5) := (blk_cell BK215.out 5).trans rfl; have hcz87_6 : w86.cell? ⟨gb215, 6, none⟩ = some (.int .u8 a2_6) := (blk_cell BK215.out 6).trans rfl; have hfz87_0 := blk_frozen BK215.out 0; have hfz87_1 := blk_frozen BK215.out 1; have hfz87_2 := blk_frozen BK215.out 2; have hfz87_3 := blk_frozen BK215.out 3; have hfz87_4 := blk_frozen BK215.out 4; have hfz87_5 := blk_frozen BK215.out 5; have hfz87_6 := blk_frozen BK215.out 6) | ((with_reducible refine gate_callee (f := 37) rfl ?_); refine goesL_ (some 53) rfl rfl Try.func37 (by kernel_rfl) rfl #[.slice Ao81 t217.length co81, .int .i64 a3, .agg #[.int .i32 a2_0, .int .i32 a2_1, .int .i32 a2_2, .int .u8 a2_3, .int .u8 a2_4, .int .u8 a2_5, .int .u8 a2_6]] rfl (by (try simp only [List.map_toArray, List.map_cons, List.map_nil]); first | done | rfl | (simp only [List.length_drop, List.length_take]; rfl)) ?_; (with_reducible refine (line_Put.calls kj7 _ _ t217 a3 a2_0 a2_1 a2_2 a2_3 a2_4 a2_5 a2_6 t229 t232 _ ?side1 ?side2 A35.out).mono ?_); (case side1 => repeat (first | exact (Kd.R_reads' HO_0.out).2.2 | (with_reducible refine Kd.C_alloc ?_ _) | (with_reducible refine Kd.C_drewN ?_ _) | (with_reducible refine Kd.C_drew ?_))); (case side2 => exact (Kd.R_reads' HO_0.out).2.1); rintro e w88 ⟨v230, rfl, ho0, hb⟩; refine ⟨_, rfl, ?_⟩; have n0_ := Aside0.mk (Kd.R_elder' (by (with_reducible repeat (first | apply Kd.R_alloc | apply Kd.R_drewN | apply Kd.R_drew)); exact HO_0.out) (Kd.R_base ho0) hb); have n1_ := Aside0.mk (Kd.R_elder' (by (with_reducible repeat (first | apply Kd.R_alloc | apply Kd.R_drewN | apply Kd.R_drew)); exact HO223.out) (Kd.R_base ho0) hb); have n2_ := Aside0.mk (Kd.R_elder' (by (with_reducible repeat (first | apply Kd.R_alloc | apply Kd.R_drewN | apply Kd.R_drew)); exact HO227.out) (Kd.R_base ho0) hb); have n3_ := Aside0.mk (Kd.R_lower (Kd.R_newB (Kd.R_newB (Kd.R_new' (Kd.R_new' (Kd.R_new' ho0 (Kd.R_lt (by (with_reducible repeat (first | apply Kd.R_alloc | apply Kd.R_drewN | apply Kd.R_drew)); exact HO_0.out))) (Kd.R_lt (by (with_reducible repeat (first | apply Kd.R_alloc | apply Kd.R_drewN | apply Kd.R_drew)); exact HO223.out))) (Kd.R_lt (by (with_reducible repeat (first | apply Kd.R_alloc | apply Kd.R_drewN | apply Kd.R_drew)); exact HO227.out))) (g := gb214) (o := .cells #[.int .i32 a1_0, .int .i32 a1_1, .int .i32 a1_2, .int .u8 a1_3, .int .u8 a1_4, .int .u8 a1_5, .int .u8 a1_6] 26 (0, 0)) (by (with_reducible repeat (first | refine blk_drewN ?_ _ | refine blk_drew ?_ | refine blk_alloc ?_ _)); exact BK214.out)) (g := gb215) (o := .cells #[.int .i32 a2_0, .int .i32 a2_1, .int .i32 a2_2, .int .u8 a2_3, .int .u8 a2_4, .int .u8 a2_5, .int .u8 a2_6] 26 (0, 0)) (by (with_reducible repeat (first | refine blk_drewN ?_ _ | refine blk_drew ?_ | refine blk_alloc ?_ _)); exact BK215.out)) (below_size (by repeat (first | (with_reducible first | exact HB.out | apply below_alloc | apply pw_below_drewN | apply below_drew1 | refine below_set ?_ GE214.out | refine below_set ?_ GE215.out | refine below_set ?_ GE216.out) | exact HB.out)))); have n4_ := Aside0.mk (blk_below (g := gb214) (o := .cells #[.int .i32 a1_0, .int .i32 a1_1, .int .i32 a1_2, .int .u8 a1_3, .int .u8 a1_4, .int .u8 a1_5, .int .u8 a1_6] 26 (0, 0)) (by (with_reducible repeat (first | refine blk_drewN ?_ _ | refine blk_drew ?_ | refine blk_alloc ?_ _)); exact BK214.out) hb); have n5_ := Aside0.mk (blk_below (g := gb215) (o := .cells #[.int .i32 a2_0, .int .i32 a2_1, .int .i32 a2_2, .int .u8 a2_3, .int .u8 a2_4, .int .u8 a2_5, .int .u8 a2_6] 26 (0, 0)) (by (with_reducible repeat (first | refine blk_drewN ?_ _ | refine blk_drew ?_ | refine blk_alloc ?_ _)); exact BK215.out) hb); have n6_ := Aside0.mk (blk_below (g := gb216) (o := .cells #[.int .u8 a5_0, .int .u8 a5_1, .int .u8 a5_2] 24 (0, 0)) (by (with_reducible repeat (first | refine blk_drewN ?_ _ | refine blk_drew ?_ | refine blk_alloc ?_ _)); exact BK216.out) hb); have n7_ := Aside0.mk (below_step (by repeat (first | (with_reducible first | exact HB.out | apply below_alloc | apply pw_below_drewN | apply below_drew1 | refine below_set ?_ GE214.out | refine below_set ?_ GE215.out | refine below_set ?_ GE216.out) | exact HB.out)) hb); clear HO_0; clear HO223; clear HO227; clear BK214; clear BK215; clear BK216; clear HB; have HO_0 := n0_; have HO223 := n1_; have HO227 := n2_; have HO231 := n3_; have BK214 := n4_; have BK215 := n5_; have BK216 := n6_; have HB := n7_; clear n0_ n1_ n2_ n3_ n4_ n5_ n6_ n7_; (try clear hb); (try clear hb2); (try clear hk); (try clear hi); (try clear ho0)))
              go_meet
              case rel => exact ⟨_, H', ⟨by have := HJ7.out; first | omega | exact Nat.le_refl _⟩, ⟨by (with_reducible repeat (first | apply Kd.R_alloc | apply Kd.R_drewN | apply Kd.R_drew)); exact Kd.R_mono HO_0.out (fun _ hk => ⟨hk.1.1.1.1, hk.1.1.1.2⟩)⟩, ⟨by (with_reducible repeat (first | refine blk_drewN ?_ _ | refine blk_drew ?_ | refine blk_alloc ?_ _)); exact BK214.out⟩, ⟨by (with_reducible repeat (first | refine blk_drewN ?_ _ | refine blk_drew ?_ | refine blk_alloc ?_ _)); exact BK215.out⟩, ⟨by (with_reducible repeat (first | refine blk_drewN ?_ _ | refine blk_drew ?_ | refine blk_alloc ?_ _)); exact BK216.out⟩, ⟨by repeat (first | (with_reducible first | exact HB.out | apply below_alloc | apply pw_below_drewN | apply below_drew1 | refine below_set ?_ GE214.out | refine below_set ?_ GE215.out | refine below_set ?_ GE216.out) | exact HB.out)⟩⟩
          · replace c36 := Bool.eq_false_iff.mpr c36
            subst c36
            have H1 : (prolepsislaw06_LineTwice.j1 kj7 t217 a3 a4 a5_0 a5_1 a5_2) = some r := by rw [if_neg (show ¬ (false = true) by decide)] at H; exact H
            clear H
            have H := H1
            clear H1
            have H' := Aside0.mk H
            clear H
            have hnb89 := NB214_215.out
            have hnc89 := NB215_214.out
            have hnb90 := NB214_216.out
            have hnc90 := NB216_214.out
            have hcz91_0 : wc.cell? ⟨gb214, 0, none⟩ = some (.int .i32 a1_0) := (blk_cell BK214.out 0).trans rfl
            have hcz91_1 : wc.cell? ⟨gb214, 1, none⟩ = some (.int .i32 a1_1) := (blk_cell BK214.out 1).trans rfl
            have hcz91_2 : wc.cell? ⟨gb214, 2, none⟩ = some (.int .i32 a1_2) := (blk_cell BK214.out 2).trans rfl
            have hcz91_3 : wc.cell? ⟨gb214, 3, none⟩ = some (.int .u8 a1_3) := (blk_cell BK214.out 3).trans rfl
            have hcz91_4 : wc.cell? ⟨gb214, 4, none⟩ = some (.int .u8 a1_4) := (blk_cell BK214.out 4).trans rfl
            have hcz91_5 : wc.cell? ⟨gb214, 5, none⟩ = some (.int .u8 a1_5) := (blk_cell BK214.out 5).trans rfl
            have hcz91_6 : wc.cell? ⟨gb214, 6, none⟩ = some (.int .u8 a1_6) := (blk_cell BK214.out 6).trans rfl
            have hfz91_0 := blk_frozen BK214.out 0
            have hfz91_1 := blk_frozen BK214.out 1
            have hfz91_2 := blk_frozen BK214.out 2
            have hfz91_3 := blk_frozen BK214.out 3
            have hfz91_4 := blk_frozen BK214.out 4
            have hfz91_5 := blk_frozen BK214.out 5
            have hfz91_6 := blk_frozen BK214.out 6
            obtain ⟨Ao92, co92, eo92⟩ := Kd.R_slice HO_0.out
            subst eo92
            go_wp2_with (first | ((with_reducible refine gate_callee (f := 37) rfl ?_); refine goesL_ (some 39) rfl rfl Try.func37 (by kernel_rfl) rfl #[.slice Ao92 t217.length co92, .int .i64 a3, .agg #[.int .i32 a1_0, .int .i32 a1_1, .int .i32 a1_2, .int .u8 a1_3, .int .u8 a1_4, .int .u8 a1_5, .int .u8 a1_6]] rfl (by (try simp only [List.map_toArray, List.map_cons, List.map_nil]); first | done | rfl | (simp only [List.length_drop, List.length_take]; rfl)) ?_; (with_reducible refine (line_Put.calls kj7 _ _ t217 a3 a1_0 a1_1 a1_2 a1_3 a1_4 a1_5 a1_6 t221 false _ ?side1 ?side2 A33.out).mono ?_); (case side1 => repeat (first | exact (Kd.R_reads' HO_0.out).2.2 | (with_reducible refine Kd.C_alloc ?_ _) | (with_reducible refine Kd.C_drewN ?_ _) | (with_reducible refine Kd.C_drew ?_))); (case side2 => exact (Kd.R_reads' HO_0.out).2.1); rintro e w93 ⟨v222, rfl, ho0, hb⟩; refine ⟨_, rfl, ?_⟩; have n0_ := Aside0.mk (Kd.R_elder' (by (with_reducible repeat (first | apply Kd.R_alloc | apply Kd.R_drewN | apply Kd.R_drew)); exact HO_0.out) (Kd.R_base ho0) hb); have n1_ := Aside0.mk (Kd.R_lower (Kd.R_newB (Kd.R_newB (Kd.R_new' ho0 (Kd.R_lt (by (with_reducible repeat (first | apply Kd.R_alloc | apply Kd.R_drewN | apply Kd.R_drew)); exact HO_0.out))) (g := gb214) (o := .cells #[.int .i32 a1_0, .int .i32 a1_1, .int .i32 a1_2, .int .u8 a1_3, .int .u8 a1_4, .int .u8 a1_5, .int .u8 a1_6] 26 (0, 0)) (by (with_reducible repeat (first | refine blk_drewN ?_ _ | refine blk_drew ?_ | refine blk_alloc ?_ _)); exact BK214.out)) (g := gb215) (o := .cells #[.int .i32 a2_0, .int .i32 a2_1, .int .i32 a2_2, .int .u8 a2_3, .int .u8 a2_4, .int .u8 a2_5, .int .u8 a2_6] 26 (0, 0)) (by (with_reducible repeat (first | refine blk_drewN ?_ _ | refine blk_drew ?_ | refine blk_alloc ?_ _)); exact BK215.out)) (below_size (by repeat (first | (with_reducible first | exact HB.out | apply below_alloc | apply pw_below_drewN | apply below_drew1 | refine below_set ?_ GE214.out | refine below_set ?_ GE215.out | refine below_set ?_ GE216.out) | exact HB.out)))); have n2_ := Aside0.mk (blk_below (g := gb214) (o := .cells #[.int .i32 a1_0, .int .i32 a1_1, .int .i32 a1_2, .int .u8 a1_3, .int .u8 a1_4, .int .u8 a1_5, .int .u8 a1_6] 26 (0, 0)) (by (with_reducible repeat (first | refine blk_drewN ?_ _ | refine blk_drew ?_ | refine blk_alloc ?_ _)); exact BK214.out) hb); have n3_ := Aside0.mk (blk_below (g := gb215) (o := .cells #[.int .i32 a2_0, .int .i32 a2_1, .int .i32 a2_2, .int .u8 a2_3, .int .u8 a2_4, .int .u8 a2_5, .int .u8 a2_6] 26 (0, 0)) (by (with_reducible repeat (first | refine blk_drewN ?_ _ | refine blk_drew ?_ | refine blk_alloc ?_ _)); exact BK215.out) hb); have n4_ := Aside0.mk (blk_below (g := gb216) (o := .cells #[.int .u8 a5_0, .int .u8 a5_1, .int .u8 a5_2] 24 (0, 0)) (by (with_reducible repeat (first | refine blk_drewN ?_ _ | refine blk_drew ?_ | refine blk_alloc ?_ _)); exact BK216.out) hb); have n5_ := Aside0.mk (below_step (by repeat (first | (with_reducible first | exact HB.out | apply below_alloc | apply pw_below_drewN | apply below_drew1 | refine below_set ?_ GE214.out | refine below_set ?_ GE215.out | refine below_set ?_ GE216.out) | exact HB.out)) hb); clear HO_0; clear BK214; clear BK215; clear BK216; clear HB; have HO_0 := n0_; have HO223 := n1_; have BK214 := n2_; have BK215 := n3_; have BK216 := n4_; have HB := n5_; clear n0_ n1_ n2_ n3_ n4_ n5_; (try clear hb); (try clear hb2); (try clear hk); (try clear hi); (try clear ho0); have hnb94 := NB215_216.out; have hnc94 := NB216_215.out; have hcz95_0 : w93.cell? ⟨gb215, 0, none⟩ = some (.int .i32 a2_0) := (blk_cell BK215.out 0).trans rfl; have hcz95_1 : w93.cell? ⟨gb215, 1, none⟩ = some (.int .i32 a2_1) := (blk_cell BK215.out 1).trans rfl; have hcz95_2 : w93.cell? ⟨gb215, 2, none⟩ = some (.int .i32 a2_2) := (blk_cell BK215.out 2).trans rfl; have hcz95_3 : w93.cell? ⟨gb215, 3, none⟩ = some (.int .u8 a2_3) := (blk_cell BK215.out 3).trans rfl; have hcz95_4 : w93.cell? ⟨gb215, 4, none⟩ = some (.int .u8 a2_4) := (blk_cell BK215.out 4).trans rfl; have hcz95_5 : w93.cell? ⟨gb215, 5, none⟩ = some (.int .u8 a2_5) := (blk_cell BK215.out 5).trans rfl; have hcz95_6 : w93.cell? ⟨gb215, 6, none⟩ = some (.int .u8 a2_6) := (blk_cell BK215.out 6).trans rfl; have hfz95_0 := blk_frozen BK215.out 0; have hfz95_1 := blk_frozen BK215.out 1; have hfz95_2 := blk_frozen BK215.out 2; have hfz95_3 := blk_frozen BK215.out 3; have hfz95_4 := blk_frozen BK215.out 4; have hfz95_5 := blk_frozen BK215.out 5; have hfz95_6 := blk_frozen BK215.out 6; obtain ⟨Ao96, co96, eo96⟩ := Kd.R_slice HO223.out; subst eo96) | ((with_reducible refine gate_callee (f := 37) rfl ?_); refine goesL_ (some 46) rfl rfl Try.func37 (by kernel_rfl) rfl #[.slice Ao96 t221.length co96, .int .i64 a3, .agg #[.int .i32 a2_0, .int .i32 a2_1, .int .i32 a2_2, .int .u8 a2_3, .int .u8 a2_4, .int .u8 a2_5, .int .u8 a2_6]] rfl (by (try simp only [List.map_toArray, List.map_cons, List.map_nil]); first | done | rfl | (simp only [List.length_drop, List.length_take]; rfl)) ?_; (with_reducible refine (line_Put.calls kj7 _ _ t221 a3 a2_0 a2_1 a2_2 a2_3 a2_4 a2_5 a2_6 t225 t228 _ ?side1 ?side2 A34.out).mono ?_); (case side1 => repeat (first | exact (Kd.R_reads' HO223.out).2.2 | (with_reducible refine Kd.C_alloc ?_ _) | (with_reducible refine Kd.C_drewN ?_ _) | (with_reducible refine Kd.C_drew ?_))); (case side2 => exact (Kd.R_reads' HO223.out).2.1); rintro e w97 ⟨v226, rfl, ho0, hb⟩; refine ⟨_, rfl, ?_⟩; have n0_ := Aside0.mk (Kd.R_elder' (by (with_reducible repeat (first | apply Kd.R_alloc | apply Kd.R_drewN | apply Kd.R_drew)); exact HO_0.out) (Kd.R_base ho0) hb); have n1_ := Aside0.mk (Kd.R_elder' (by (with_reducible repeat (first | apply Kd.R_alloc | apply Kd.R_drewN | apply Kd.R_drew)); exact HO223.out) (Kd.R_base ho0) hb); have n2_ := Aside0.mk (Kd.R_lower (Kd.R_newB (Kd.R_newB (Kd.R_new' (Kd.R_new' ho0 (Kd.R_lt (by (with_reducible repeat (first | apply Kd.R_alloc | apply Kd.R_drewN | apply Kd.R_drew)); exact HO_0.out))) (Kd.R_lt (by (with_reducible repeat (first | apply Kd.R_alloc | apply Kd.R_drewN | apply Kd.R_drew)); exact HO223.out))) (g := gb214) (o := .cells #[.int .i32 a1_0, .int .i32 a1_1, .int .i32 a1_2, .int .u8 a1_3, .int .u8 a1_4, .int .u8 a1_5, .int .u8 a1_6] 26 (0, 0)) (by (with_reducible repeat (first | refine blk_drewN ?_ _ | refine blk_drew ?_ | refine blk_alloc ?_ _)); exact BK214.out)) (g := gb215) (o := .cells #[.int .i32 a2_0, .int .i32 a2_1, .int .i32 a2_2, .int .u8 a2_3, .int .u8 a2_4, .int .u8 a2_5, .int .u8 a2_6] 26 (0, 0)) (by (with_reducible repeat (first | refine blk_drewN ?_ _ | refine blk_drew ?_ | refine blk_alloc ?_ _)); exact BK215.out)) (below_size (by repeat (first | (with_reducible first | exact HB.out | apply below_alloc | apply pw_below_drewN | apply below_drew1 | refine below_set ?_ GE214.out | refine below_set ?_ GE215.out | refine below_set ?_ GE216.out) | exact HB.out)))); have n3_ := Aside0.mk (blk_below (g := gb214) (o := .cells #[.int .i32 a1_0, .int .i32 a1_1, .int .i32 a1_2, .int .u8 a1_3, .int .u8 a1_4, .int .u8 a1_5, .int .u8 a1_6] 26 (0, 0)) (by (with_reducible repeat (first | refine blk_drewN ?_ _ | refine blk_drew ?_ | refine blk_alloc ?_ _)); exact BK214.out) hb); have n4_ := Aside0.mk (blk_below (g := gb215) (o := .cells #[.int .i32 a2_0, .int .i32 a2_1, .int .i32 a2_2, .int .u8 a2_3, .int .u8 a2_4, .int .u8 a2_5, .int .u8 a2_6] 26 (0, 0)) (by (with_reducible repeat (first | refine blk_drewN ?_ _ | refine blk_drew ?_ | refine blk_alloc ?_ _)); exact BK215.out) hb); have n5_ := Aside0.mk (blk_below (g := gb216) (o := .cells #[.int .u8 a5_0, .int .u8 a5_1, .int .u8 a5_2] 24 (0, 0)) (by (with_reducible repeat (first | refine blk_drewN ?_ _ | refine blk_drew ?_ | refine blk_alloc ?_ _)); exact BK216.out) hb); have n6_ := Aside0.mk (below_step (by repeat (first | (with_reducible first | exact HB.out | apply below_alloc | apply pw_below_drewN | apply below_drew1 | refine below_set ?_ GE214.out | refine below_set ?_ GE215.out | refine below_set ?_ GE216.out) | exact HB.out)) hb); clear HO_0; clear HO223; clear BK214; clear BK215; clear BK216; clear HB; have HO_0 := n0_; have HO223 := n1_; have HO227 := n2_; have BK214 := n3_; have BK215 := n4_; have BK216 := n5_; have HB := n6_; clear n0_ n1_ n2_ n3_ n4_ n5_ n6_; (try clear hb); (try clear hb2); (try clear hk); (try clear hi); (try clear ho0); have hcz98_0 : w97.cell? ⟨gb215, 0, none⟩ = some (.int .i32 a2_0) := (blk_cell BK215.out 0).trans rfl; have hcz98_1 : w97.cell? ⟨gb215, 1, none⟩ = some (.int .i32 a2_1) := (blk_cell BK215.out 1).trans rfl; have hcz98_2 : w97.cell? ⟨gb215, 2, none⟩ = some (.int .i32 a2_2) := (blk_cell BK215.out 2).trans rfl; have hcz98_3 : w97.cell? ⟨gb215, 3, none⟩ = some (.int .u8 a2_3) := (blk_cell BK215.out 3).trans rfl; have hcz98_4 : w97.cell? ⟨gb215, 4, none⟩ = some (.int .u8 a2_4) := (blk_cell BK215.out 4).trans rfl; have hcz98_5 : w97.cell? ⟨gb215, 5, none⟩ = some (.int .u8 a2_5) := (blk_cell BK215.out 5).trans rfl; have hcz98_6 : w97.cell? ⟨gb215, 6, none⟩ = some (.int .u8 a2_6) := (blk_cell BK215.out 6).trans rfl; have hfz98_0 := blk_frozen BK215.out 0; have hfz98_1 := blk_frozen BK215.out 1; have hfz98_2 := blk_frozen BK215.out 2; have hfz98_3 := blk_frozen BK215.out 3; have hfz98_4 := blk_frozen BK215.out 4; have hfz98_5 := blk_frozen BK215.out 5; have hfz98_6 := blk_frozen BK215.out 6) | ((with_reducible refine gate_callee (f := 37) rfl ?_); refine goesL_ (some 53) rfl rfl Try.func37 (by kernel_rfl) rfl #[.slice Ao92 t217.length co92, .int .i64 a3, .agg #[.int .i32 a2_0, .int .i32 a2_1, .int .i32 a2_2, .int .u8 a2_3, .int .u8 a2_4, .int .u8 a2_5, .int .u8 a2_6]] rfl (by (try simp only [List.map_toArray, List.map_cons, List.map_nil]); first | done | rfl | (simp only [List.length_drop, List.length_take]; rfl)) ?_; (with_reducible refine (line_Put.calls kj7 _ _ t217 a3 a2_0 a2_1 a2_2 a2_3 a2_4 a2_5 a2_6 t229 t232 _ ?side1 ?side2 A35.out).mono ?_); (case side1 => repeat (first | exact (Kd.R_reads' HO_0.out).2.2 | (with_reducible refine Kd.C_alloc ?_ _) | (with_reducible refine Kd.C_drewN ?_ _) | (with_reducible refine Kd.C_drew ?_))); (case side2 => exact (Kd.R_reads' HO_0.out).2.1); rintro e w99 ⟨v230, rfl, ho0, hb⟩; refine ⟨_, rfl, ?_⟩; have n0_ := Aside0.mk (Kd.R_elder' (by (with_reducible repeat (first | apply Kd.R_alloc | apply Kd.R_drewN | apply Kd.R_drew)); exact HO_0.out) (Kd.R_base ho0) hb); have n1_ := Aside0.mk (Kd.R_elder' (by (with_reducible repeat (first | apply Kd.R_alloc | apply Kd.R_drewN | apply Kd.R_drew)); exact HO223.out) (Kd.R_base ho0) hb); have n2_ := Aside0.mk (Kd.R_elder' (by (with_reducible repeat (first | apply Kd.R_alloc | apply Kd.R_drewN | apply Kd.R_drew)); exact HO227.out) (Kd.R_base ho0) hb); have n3_ := Aside0.mk (Kd.R_lower (Kd.R_newB (Kd.R_newB (Kd.R_new' (Kd.R_new' (Kd.R_new' ho0 (Kd.R_lt (by (with_reducible repeat (first | apply Kd.R_alloc | apply Kd.R_drewN | apply Kd.R_drew)); exact HO_0.out))) (Kd.R_lt (by (with_reducible repeat (first | apply Kd.R_alloc | apply Kd.R_drewN | apply Kd.R_drew)); exact HO223.out))) (Kd.R_lt (by (with_reducible repeat (first | apply Kd.R_alloc | apply Kd.R_drewN | apply Kd.R_drew)); exact HO227.out))) (g := gb214) (o := .cells #[.int .i32 a1_0, .int .i32 a1_1, .int .i32 a1_2, .int .u8 a1_3, .int .u8 a1_4, .int .u8 a1_5, .int .u8 a1_6] 26 (0, 0)) (by (with_reducible repeat (first | refine blk_drewN ?_ _ | refine blk_drew ?_ | refine blk_alloc ?_ _)); exact BK214.out)) (g := gb215) (o := .cells #[.int .i32 a2_0, .int .i32 a2_1, .int .i32 a2_2, .int .u8 a2_3, .int .u8 a2_4, .int .u8 a2_5, .int .u8 a2_6] 26 (0, 0)) (by (with_reducible repeat (first | refine blk_drewN ?_ _ | refine blk_drew ?_ | refine blk_alloc ?_ _)); exact BK215.out)) (below_size (by repeat (first | (with_reducible first | exact HB.out | apply below_alloc | apply pw_below_drewN | apply below_drew1 | refine below_set ?_ GE214.out | refine below_set ?_ GE215.out | refine below_set ?_ GE216.out) | exact HB.out)))); have n4_ := Aside0.mk (blk_below (g := gb214) (o := .cells #[.int .i32 a1_0, .int .i32 a1_1, .int .i32 a1_2, .int .u8 a1_3, .int .u8 a1_4, .int .u8 a1_5, .int .u8 a1_6] 26 (0, 0)) (by (with_reducible repeat (first | refine blk_drewN ?_ _ | refine blk_drew ?_ | refine blk_alloc ?_ _)); exact BK214.out) hb); have n5_ := Aside0.mk (blk_below (g := gb215) (o := .cells #[.int .i32 a2_0, .int .i32 a2_1, .int .i32 a2_2, .int .u8 a2_3, .int .u8 a2_4, .int .u8 a2_5, .int .u8 a2_6] 26 (0, 0)) (by (with_reducible repeat (first | refine blk_drewN ?_ _ | refine blk_drew ?_ | refine blk_alloc ?_ _)); exact BK215.out) hb); have n6_ := Aside0.mk (blk_below (g := gb216) (o := .cells #[.int .u8 a5_0, .int .u8 a5_1, .int .u8 a5_2] 24 (0, 0)) (by (with_reducible repeat (first | refine blk_drewN ?_ _ | refine blk_drew ?_ | refine blk_alloc ?_ _)); exact BK216.out) hb); have n7_ := Aside0.mk (below_step (by repeat (first | (with_reducible first | exact HB.out | apply below_alloc | apply pw_below_drewN | apply below_drew1 | refine below_set ?_ GE214.out | refine below_set ?_ GE215.out | refine below_set ?_ GE216.out) | exact HB.out)) hb); clear HO_0; clear HO223; clear HO227; clear BK214; clear BK215; clear BK216; clear HB; have HO_0 := n0_; have HO223 := n1_; have HO227 := n2_; have HO231 := n3_; have BK214 := n4_; have BK215 := n5_; have BK216 := n6_; have HB := n7_; clear n0_ n1_ n2_ n3_ n4_ n5_ n6_ n7_; (try clear hb); (try clear hb2); (try clear hk); (try clear hi); (try clear ho0)))
            go_meet
            case rel => exact ⟨_, H', ⟨by have := HJ7.out; first | omega | exact Nat.le_refl _⟩, ⟨by (with_reducible repeat (first | apply Kd.R_alloc | apply Kd.R_drewN | apply Kd.R_drew)); exact Kd.R_mono HO_0.out (fun _ hk => ⟨hk.1.1.1.1, hk.1.1.1.2⟩)⟩, ⟨by (with_reducible repeat (first | refine blk_drewN ?_ _ | refine blk_drew ?_ | refine blk_alloc ?_ _)); exact BK214.out⟩, ⟨by (with_reducible repeat (first | refine blk_drewN ?_ _ | refine blk_drew ?_ | refine blk_alloc ?_ _)); exact BK215.out⟩, ⟨by (with_reducible repeat (first | refine blk_drewN ?_ _ | refine blk_drew ?_ | refine blk_alloc ?_ _)); exact BK216.out⟩, ⟨by repeat (first | (with_reducible first | exact HB.out | apply below_alloc | apply pw_below_drewN | apply below_drew1 | refine below_set ?_ GE214.out | refine below_set ?_ GE215.out | refine below_set ?_ GE216.out) | exact HB.out)⟩⟩
        · replace c32 := Bool.eq_false_iff.mpr c32
          subst c32
          have H1 : (prolepsislaw06_LineTwice.j1 kj7 t217 a3 a4 a5_0 a5_1 a5_2) = some r := by rw [if_neg (show ¬ (false = true) by decide)] at H; exact H
          clear H
          have H := H1
          clear H1
          have H' := Aside0.mk H
          clear H
          go_wp2
          go_meet
          case rel => exact ⟨_, H', ⟨by have := HJ7.out; first | omega | exact Nat.le_refl _⟩, ⟨by (with_reducible repeat (first | apply Kd.R_alloc | apply Kd.R_drewN | apply Kd.R_drew)); exact HO_0.out⟩, ⟨by (with_reducible repeat (first | refine blk_drewN ?_ _ | refine blk_drew ?_ | refine blk_alloc ?_ _)); exact BK214.out⟩, ⟨by (with_reducible repeat (first | refine blk_drewN ?_ _ | refine blk_drew ?_ | refine blk_alloc ?_ _)); exact BK215.out⟩, ⟨by (with_reducible repeat (first | refine blk_drewN ?_ _ | refine blk_drew ?_ | refine blk_alloc ?_ _)); exact BK216.out⟩, ⟨by repeat (first | (with_reducible first | exact HB.out | apply below_alloc | apply pw_below_drewN | apply below_drew1 | refine below_set ?_ GE214.out | refine below_set ?_ GE215.out | refine below_set ?_ GE216.out) | exact HB.out)⟩⟩
      case rest =>
        clear HC31
        try clear c1
        try clear c2
        try clear p2
        try clear c3
        try clear c4
        try clear c5
        try clear c6
        try clear c7
        try clear c8
        try clear c9
        try clear c13
        try clear c13b0
        try clear c13b1
        try clear c14
        try clear c14b0
        try clear c14b1
        try clear c16
        try clear c17
        try clear c19
        try clear c23
        try clear c24
        try clear c26
        try clear c28
        try clear c29
        try clear c32
        try clear c35
        try clear c36
        try clear c37
        try clear c38
        try clear c40
        try clear c41
        try clear c42
        try clear c46
        try clear c54
        try clear c55
        try clear c59
        try clear c67
        try clear c68
        try clear c72
        try clear c78
        try clear c79
        try clear c83
        try clear c89
        try clear c90
        try clear c94
        try clear hcz18_0
        try clear hcz18_1
        try clear hcz18_2
        try clear hcz18_3
        try clear hcz18_4
        try clear hcz18_5
        try clear hcz18_6
        try clear hcz20_0
        try clear hcz20_1
        try clear hcz20_2
        try clear hcz20_3
        try clear hcz20_4
        try clear hcz20_5
        try clear hcz20_6
        try clear hcz25_0
        try clear hcz25_1
        try clear hcz25_2
        try clear hcz25_3
        try clear hcz25_4
        try clear hcz25_5
        try clear hcz25_6
        try clear hcz27_0
        try clear hcz27_1
        try clear hcz27_2
        try clear hcz27_3
        try clear hcz27_4
        try clear hcz27_5
        try clear hcz27_6
        try clear hcz30_0
        try clear hcz30_1
        try clear hcz30_2
        try clear hcz30_3
        try clear hcz30_4
        try clear hcz30_5
        try clear hcz30_6
        try clear hcz43_0
        try clear hcz43_1
        try clear hcz43_2
        try clear hcz43_3
        try clear hcz43_4
        try clear hcz43_5
        try clear hcz43_6
        try clear hcz47_0
        try clear hcz47_1
        try clear hcz47_2
        try clear hcz47_3
        try clear hcz47_4
        try clear hcz47_5
        try clear hcz47_6
        try clear hcz50_0
        try clear hcz50_1
        try clear hcz50_2
        try clear hcz50_3
        try clear hcz50_4
        try clear hcz50_5
        try clear hcz50_6
        try clear hcz56_0
        try clear hcz56_1
        try clear hcz56_2
        try clear hcz56_3
        try clear hcz56_4
        try clear hcz56_5
        try clear hcz56_6
        try clear hcz60_0
        try clear hcz60_1
        try clear hcz60_2
        try clear hcz60_3
        try clear hcz60_4
        try clear hcz60_5
        try clear hcz60_6
        try clear hcz63_0
        try clear hcz63_1
        try clear hcz63_2
        try clear hcz63_3
        try clear hcz63_4
        try clear hcz63_5
        try clear hcz63_6
        try clear hcz69_0
        try clear hcz69_1
        try clear hcz69_2
        try clear hcz69_3
        try clear hcz69_4
        try clear hcz69_5
        try clear hcz69_6
        try clear hcz73_0
        try clear hcz73_1
        try clear hcz73_2
        try clear hcz73_3
        try clear hcz73_4
        try clear hcz73_5
        try clear hcz73_6
        try clear hcz76_0
        try clear hcz76_1
        try clear hcz76_2
        try clear hcz76_3
        try clear hcz76_4
        try clear hcz76_5
        try clear hcz76_6
        try clear hcz80_0
        try clear hcz80_1
        try clear hcz80_2
        try clear hcz80_3
        try clear hcz80_4
        try clear hcz80_5
        try clear hcz80_6
        try clear hcz84_0
        try clear hcz84_1
        try clear hcz84_2
        try clear hcz84_3
        try clear hcz84_4
        try clear hcz84_5
        try clear hcz84_6
        try clear hcz87_0
        try clear hcz87_1
        try clear hcz87_2
        try clear hcz87_3
        try clear hcz87_4
        try clear hcz87_5
        try clear hcz87_6
        try clear hcz91_0
        try clear hcz91_1
        try clear hcz91_2
        try clear hcz91_3
        try clear hcz91_4
        try clear hcz91_5
        try clear hcz91_6
        try clear hcz95_0
        try clear hcz95_1
        try clear hcz95_2
        try clear hcz95_3
        try clear hcz95_4
        try clear hcz95_5
        try clear hcz95_6
        try clear hcz98_0
        try clear hcz98_1
        try clear hcz98_2
        try clear hcz98_3
        try clear hcz98_4
        try clear hcz98_5
        try clear hcz98_6
        try clear hfz18_0
        try clear hfz18_1
        try clear hfz18_2
        try clear hfz18_3
        try clear hfz18_4
        try clear hfz18_5
        try clear hfz18_6
        try clear hfz20_0
        try clear hfz20_1
        try clear hfz20_2
        try clear hfz20_3
        try clear hfz20_4
        try clear hfz20_5
        try clear hfz20_6
        try clear hfz25_0
        try clear hfz25_1
        try clear hfz25_2
        try clear hfz25_3
        try clear hfz25_4
        try clear hfz25_5
        try clear hfz25_6
        try clear hfz27_0
        try clear hfz27_1
        try clear hfz27_2
        try clear hfz27_3
        try clear hfz27_4
        try clear hfz27_5
        try clear hfz27_6
        try clear hfz30_0
        try clear hfz30_1
        try clear hfz30_2
        try clear hfz30_3
        try clear hfz30_4
        try clear hfz30_5
        try clear hfz30_6
        try clear hfz43_0
        try clear hfz43_1
        try clear hfz43_2
        try clear hfz43_3
        try clear hfz43_4
        try clear hfz43_5
        try clear hfz43_6
        try clear hfz47_0
        try clear hfz47_1
        try clear hfz47_2
        try clear hfz47_3
        try clear hfz47_4
        try clear hfz47_5
        try clear hfz47_6
        try clear hfz50_0
        try clear hfz50_1
        try clear hfz50_2
        try clear hfz50_3
        try clear hfz50_4
        try clear hfz50_5
        try clear hfz50_6
        try clear hfz56_0
        try clear hfz56_1
        try clear hfz56_2
        try clear hfz56_3
        try clear hfz56_4
        try clear hfz56_5
        try clear hfz56_6
        try clear hfz60_0
        try clear hfz60_1
        try clear hfz60_2
        try clear hfz60_3
        try clear hfz60_4
        try clear hfz60_5
        try clear hfz60_6
        try clear hfz63_0
        try clear hfz63_1
        try clear hfz63_2
        try clear hfz63_3
        try clear hfz63_4
        try clear hfz63_5
        try clear hfz63_6
        try clear hfz69_0
        try clear hfz69_1
        try clear hfz69_2
        try clear hfz69_3
        try clear hfz69_4
        try clear hfz69_5
        try clear hfz69_6
        try clear hfz73_0
        try clear hfz73_1
        try clear hfz73_2
        try clear hfz73_3
        try clear hfz73_4
        try clear hfz73_5
        try clear hfz73_6
        try clear hfz76_0
        try clear hfz76_1
        try clear hfz76_2
        try clear hfz76_3
        try clear hfz76_4
        try clear hfz76_5
        try clear hfz76_6
        try clear hfz80_0
        try clear hfz80_1
        try clear hfz80_2
        try clear hfz80_3
        try clear hfz80_4
        try clear hfz80_5
        try clear hfz80_6
        try clear hfz84_0
        try clear hfz84_1
        try clear hfz84_2
        try clear hfz84_3
        try clear hfz84_4
        try clear hfz84_5
        try clear hfz84_6
        try clear hfz87_0
        try clear hfz87_1
        try clear hfz87_2
        try clear hfz87_3
        try clear hfz87_4
        try clear hfz87_5
        try clear hfz87_6
        try clear hfz91_0
        try clear hfz91_1
        try clear hfz91_2
        try clear hfz91_3
        try clear hfz91_4
        try clear hfz91_5
        try clear hfz91_6
        try clear hfz95_0
        try clear hfz95_1
        try clear hfz95_2
        try clear hfz95_3
        try clear hfz95_4
        try clear hfz95_5
        try clear hfz95_6
        try clear hfz98_0
        try clear hfz98_1
        try clear hfz98_2
        try clear hfz98_3
        try clear hfz98_4
        try clear hfz98_5
        try clear hfz98_6
        try clear p2
        obtain ⟨kq, HA, HJ30, HO_0, BK214, BK215, BK216, HB⟩ := hcut
        cases kq with
        | zero => exact absurd HA.out (by simp [prolepsislaw06_LineTwice.j1])
        | succ kj30 =>
          have H := HA.out
          clear HA
          simp only [prolepsislaw06_LineTwice.j1] at H
          replace H := Option.bind_eq_some_iff.mp H
          obtain ⟨t234, A1000, H⟩ := H
          replace H : ((line_Erase.f kj30 t217 a3 a4 a5_0 a5_1 a5_2).bind fun t237 => ((prolepsislaw06_known.f).bind fun t240 => (if t240 = true then ((line_Fit.f kj30 t234 a4).bind fun t241 => ((line_Same.f kj30 t241 t234).bind fun t244 => (if t244 = true then ((line_Erase.f kj30 t237 a3 a4 a5_0 a5_1 a5_2).bind fun t245 => ((line_Same.f kj30 t245 t237).bind fun t248 => (some t248))) else (some false)))) else (some false)))) = some r := H
          have A100 := Aside0.mk A1000
          clear A1000
          replace H := Option.bind_eq_some_iff.mp H
          obtain ⟨t237, A1010, H⟩ := H
          replace H : ((prolepsislaw06_known.f).bind fun t240 => (if t240 = true then ((line_Fit.f kj30 t234 a4).bind fun t241 => ((line_Same.f kj30 t241 t234).bind fun t244 => (if t244 = true then ((line_Erase.f kj30 t237 a3 a4 a5_0 a5_1 a5_2).bind fun t245 => ((line_Same.f kj30 t245 t237).bind fun t248 => (some t248))) else (some false)))) else (some false))) = some r := H
          have A101 := Aside0.mk A1010
          clear A1010
          replace H := Option.bind_eq_some_iff.mp H
          obtain ⟨t240, A1020, H⟩ := H
          replace H : (if t240 = true then ((line_Fit.f kj30 t234 a4).bind fun t241 => ((line_Same.f kj30 t241 t234).bind fun t244 => (if t244 = true then ((line_Erase.f kj30 t237 a3 a4 a5_0 a5_1 a5_2).bind fun t245 => ((line_Same.f kj30 t245 t237).bind fun t248 => (some t248))) else (some false)))) else (some false)) = some r := H
          have A102 := Aside0.mk A1020
          clear A1020
          by_cases c103 : t240 = true
          · subst c103
            have H1 : ((line_Fit.f kj30 t234 a4).bind fun t241 => ((line_Same.f kj30 t241 t234).bind fun t244 => (if t244 = true then ((line_Erase.f kj30 t237 a3 a4 a5_0 a5_1 a5_2).bind fun t245 => ((line_Same.f kj30 t245 t237).bind fun t248 => (some t248))) else (some false)))) = some r := by rw [if_pos rfl] at H; exact H
            clear H
            have H := H1
            clear H1
            replace H := Option.bind_eq_some_iff.mp H
            obtain ⟨t241, A1040, H⟩ := H
            replace H : ((line_Same.f kj30 t241 t234).bind fun t244 => (if t244 = true then ((line_Erase.f kj30 t237 a3 a4 a5_0 a5_1 a5_2).bind fun t245 => ((line_Same.f kj30 t245 t237).bind fun t248 => (some t248))) else (some false))) = some r := H
            have A104 := Aside0.mk A1040
            clear A1040
            replace H := Option.bind_eq_some_iff.mp H
            obtain ⟨t244, A1050, H⟩ := H
            replace H : (if t244 = true then ((line_Erase.f kj30 t237 a3 a4 a5_0 a5_1 a5_2).bind fun t245 => ((line_Same.f kj30 t245 t237).bind fun t248 => (some t248))) else (some false)) = some r := H
            have A105 := Aside0.mk A1050
            clear A1050
            by_cases c106 : t244 = true
            · subst c106
              have H1 : ((line_Erase.f kj30 t237 a3 a4 a5_0 a5_1 a5_2).bind fun t245 => ((line_Same.f kj30 t245 t237).bind fun t248 => (some t248))) = some r := by rw [if_pos rfl] at H; exact H
              clear H
              have H := H1
              clear H1
              replace H := Option.bind_eq_some_iff.mp H
              obtain ⟨t245, A1070, H⟩ := H
              replace H : ((line_Same.f kj30 t245 t237).bind fun t248 => (some t248)) = some r := H
              have A107 := Aside0.mk A1070
              clear A1070
              replace H := Option.bind_eq_some_iff.mp H
              obtain ⟨t248, A1080, H⟩ := H
              replace H : (some t248) = some r := H
              have A108 := Aside0.mk A1080
              clear A1080
              obtain rfl := Option.some.inj H
              obtain ⟨Ao109, co109, eo109⟩ := Kd.R_slice HO_0.out
              subst eo109
              go_wp2_with (first | ((with_reducible refine gate_callee (f := 39) rfl ?_); refine goesL_ (some 71) rfl rfl Try.func39 (by kernel_rfl) rfl #[.slice Ao109 t217.length co109, .int .i64 a4] rfl (by (try simp only [List.map_toArray, List.map_cons, List.map_nil]); first | done | rfl | (simp only [List.length_drop, List.length_take]; rfl)) ?_; (with_reducible refine (line_Fit.calls kj30 _ _ t217 a4 t234 _ ?side1 ?side2 A100.out).mono ?_); (case side1 => repeat (first | exact (Kd.R_reads' HO_0.out).2.2 | (with_reducible refine Kd.C_alloc ?_ _) | (with_reducible refine Kd.C_drewN ?_ _) | (with_reducible refine Kd.C_drew ?_))); (case side2 => exact (Kd.R_reads' HO_0.out).2.1); rintro e w110 ⟨v235, rfl, ho0, hb⟩; refine ⟨_, rfl, ?_⟩; have n0_ := Aside0.mk (Kd.R_elder' (by (with_reducible repeat (first | apply Kd.R_alloc | apply Kd.R_drewN | apply Kd.R_drew)); exact HO_0.out) (Kd.R_base ho0) hb); have n1_ := Aside0.mk (Kd.R_lower (Kd.R_newB (Kd.R_newB (Kd.R_new' ho0 (Kd.R_lt (by (with_reducible repeat (first | apply Kd.R_alloc | apply Kd.R_drewN | apply Kd.R_drew)); exact HO_0.out))) (g := gb214) (o := .cells #[.int .i32 a1_0, .int .i32 a1_1, .int .i32 a1_2, .int .u8 a1_3, .int .u8 a1_4, .int .u8 a1_5, .int .u8 a1_6] 26 (0, 0)) (by (with_reducible repeat (first | refine blk_drewN ?_ _ | refine blk_drew ?_ | refine blk_alloc ?_ _)); exact BK214.out)) (g := gb215) (o := .cells #[.int .i32 a2_0, .int .i32 a2_1, .int .i32 a2_2, .int .u8 a2_3, .int .u8 a2_4, .int .u8 a2_5, .int .u8 a2_6] 26 (0, 0)) (by (with_reducible repeat (first | refine blk_drewN ?_ _ | refine blk_drew ?_ | refine blk_alloc ?_ _)); exact BK215.out)) (below_size (by repeat (first | (with_reducible first | exact HB.out | apply below_alloc | apply pw_below_drewN | apply below_drew1 | refine below_set ?_ GE214.out | refine below_set ?_ GE215.out | refine below_set ?_ GE216.out) | exact HB.out)))); have n2_ := Aside0.mk (blk_below (g := gb214) (o := .cells #[.int .i32 a1_0, .int .i32 a1_1, .int .i32 a1_2, .int .u8 a1_3, .int .u8 a1_4, .int .u8 a1_5, .int .u8 a1_6] 26 (0, 0)) (by (with_reducible repeat (first | refine blk_drewN ?_ _ | refine blk_drew ?_ | refine blk_alloc ?_ _)); exact BK214.out) hb); have n3_ := Aside0.mk (blk_below (g := gb215) (o := .cells #[.int .i32 a2_0, .int .i32 a2_1, .int .i32 a2_2, .int .u8 a2_3, .int .u8 a2_4, .int .u8 a2_5, .int .u8 a2_6] 26 (0, 0)) (by (with_reducible repeat (first | refine blk_drewN ?_ _ | refine blk_drew ?_ | refine blk_alloc ?_ _)); exact BK215.out) hb); have n4_ := Aside0.mk (blk_below (g := gb216) (o := .cells #[.int .u8 a5_0, .int .u8 a5_1, .int .u8 a5_2] 24 (0, 0)) (by (with_reducible repeat (first | refine blk_drewN ?_ _ | refine blk_drew ?_ | refine blk_alloc ?_ _)); exact BK216.out) hb); have n5_ := Aside0.mk (below_step (by repeat (first | (with_reducible first | exact HB.out | apply below_alloc | apply pw_below_drewN | apply below_drew1 | refine below_set ?_ GE214.out | refine below_set ?_ GE215.out | refine below_set ?_ GE216.out) | exact HB.out)) hb); clear HO_0; clear BK214; clear BK215; clear BK216; clear HB; have HO_0 := n0_; have HO236 := n1_; have BK214 := n2_; have BK215 := n3_; have BK216 := n4_; have HB := n5_; clear n0_ n1_ n2_ n3_ n4_ n5_; (try clear hb); (try clear hb2); (try clear hk); (try clear hi); (try clear ho0); have hnb111 := NB216_214.out; have hnc111 := NB214_216.out; have hnb112 := NB216_215.out; have hnc112 := NB215_216.out; have hcz113_0 : w110.cell? ⟨gb216, 0, none⟩ = some (.int .u8 a5_0) := (blk_cell BK216.out 0).trans rfl; have hcz113_1 : w110.cell? ⟨gb216, 1, none⟩ = some (.int .u8 a5_1) := (blk_cell BK216.out 1).trans rfl; have hcz113_2 : w110.cell? ⟨gb216, 2, none⟩ = some (.int .u8 a5_2) := (blk_cell BK216.out 2).trans rfl; have hfz113_0 := blk_frozen BK216.out 0; have hfz113_1 := blk_frozen BK216.out 1; have hfz113_2 := blk_frozen BK216.out 2) | ((with_reducible refine gate_callee (f := 40) rfl ?_); refine goesL_ (some 76) rfl rfl Try.func40 (by kernel_rfl) rfl #[.slice Ao109 t217.length co109, .int .i64 a3, .int .i64 a4, .agg #[.int .u8 a5_0, .int .u8 a5_1, .int .u8 a5_2]] rfl (by (try simp only [List.map_toArray, List.map_cons, List.map_nil]); first | done | rfl | (simp only [List.length_drop, List.length_take]; rfl)) ?_; (with_reducible refine (line_Erase.calls kj30 _ _ t217 a3 a4 a5_0 a5_1 a5_2 t237 _ ?side1 ?side2 A101.out).mono ?_); (case side1 => repeat (first | exact (Kd.R_reads' HO_0.out).2.2 | (with_reducible refine Kd.C_alloc ?_ _) | (with_reducible refine Kd.C_drewN ?_ _) | (with_reducible refine Kd.C_drew ?_))); (case side2 => exact (Kd.R_reads' HO_0.out).2.1); rintro e w114 ⟨v238, rfl, ho0, hb⟩; refine ⟨_, rfl, ?_⟩; have n0_ := Aside0.mk (Kd.R_elder' (by (with_reducible repeat (first | apply Kd.R_alloc | apply Kd.R_drewN | apply Kd.R_drew)); exact HO_0.out) (Kd.R_base ho0) hb); have n1_ := Aside0.mk (Kd.R_elder' (by (with_reducible repeat (first | apply Kd.R_alloc | apply Kd.R_drewN | apply Kd.R_drew)); exact HO236.out) (Kd.R_base ho0) hb); have n2_ := Aside0.mk (Kd.R_lower (Kd.R_newB (Kd.R_newB (Kd.R_new' (Kd.R_new' ho0 (Kd.R_lt (by (with_reducible repeat (first | apply Kd.R_alloc | apply Kd.R_drewN | apply Kd.R_drew)); exact HO_0.out))) (Kd.R_lt (by (with_reducible repeat (first | apply Kd.R_alloc | apply Kd.R_drewN | apply Kd.R_drew)); exact HO236.out))) (g := gb214) (o := .cells #[.int .i32 a1_0, .int .i32 a1_1, .int .i32 a1_2, .int .u8 a1_3, .int .u8 a1_4, .int .u8 a1_5, .int .u8 a1_6] 26 (0, 0)) (by (with_reducible repeat (first | refine blk_drewN ?_ _ | refine blk_drew ?_ | refine blk_alloc ?_ _)); exact BK214.out)) (g := gb215) (o := .cells #[.int .i32 a2_0, .int .i32 a2_1, .int .i32 a2_2, .int .u8 a2_3, .int .u8 a2_4, .int .u8 a2_5, .int .u8 a2_6] 26 (0, 0)) (by (with_reducible repeat (first | refine blk_drewN ?_ _ | refine blk_drew ?_ | refine blk_alloc ?_ _)); exact BK215.out)) (below_size (by repeat (first | (with_reducible first | exact HB.out | apply below_alloc | apply pw_below_drewN | apply below_drew1 | refine below_set ?_ GE214.out | refine below_set ?_ GE215.out | refine below_set ?_ GE216.out) | exact HB.out)))); have n3_ := Aside0.mk (blk_below (g := gb214) (o := .cells #[.int .i32 a1_0, .int .i32 a1_1, .int .i32 a1_2, .int .u8 a1_3, .int .u8 a1_4, .int .u8 a1_5, .int .u8 a1_6] 26 (0, 0)) (by (with_reducible repeat (first | refine blk_drewN ?_ _ | refine blk_drew ?_ | refine blk_alloc ?_ _)); exact BK214.out) hb); have n4_ := Aside0.mk (blk_below (g := gb215) (o := .cells #[.int .i32 a2_0, .int .i32 a2_1, .int .i32 a2_2, .int .u8 a2_3, .int .u8 a2_4, .int .u8 a2_5, .int .u8 a2_6] 26 (0, 0)) (by (with_reducible repeat (first | refine blk_drewN ?_ _ | refine blk_drew ?_ | refine blk_alloc ?_ _)); exact BK215.out) hb); have n5_ := Aside0.mk (blk_below (g := gb216) (o := .cells #[.int .u8 a5_0, .int .u8 a5_1, .int .u8 a5_2] 24 (0, 0)) (by (with_reducible repeat (first | refine blk_drewN ?_ _ | refine blk_drew ?_ | refine blk_alloc ?_ _)); exact BK216.out) hb); have n6_ := Aside0.mk (below_step (by repeat (first | (with_reducible first | exact HB.out | apply below_alloc | apply pw_below_drewN | apply below_drew1 | refine below_set ?_ GE214.out | refine below_set ?_ GE215.out | refine below_set ?_ GE216.out) | exact HB.out)) hb); clear HO_0; clear HO236; clear BK214; clear BK215; clear BK216; clear HB; have HO_0 := n0_; have HO236 := n1_; have HO239 := n2_; have BK214 := n3_; have BK215 := n4_; have BK216 := n5_; have HB := n6_; clear n0_ n1_ n2_ n3_ n4_ n5_ n6_; (try clear hb); (try clear hb2); (try clear hk); (try clear hi); (try clear ho0)) | ((with_reducible refine gate_callee (f := 41) rfl ?_); refine goesL_ (some 77) rfl rfl Try.func41 (by kernel_rfl) rfl #[] rfl (by (try simp only [List.map_toArray, List.map_cons, List.map_nil]); first | done | rfl | (simp only [List.length_drop, List.length_take]; rfl)) ?_; (with_reducible refine (prolepsislaw06_known.calls  true _ A102.out).mono ?_); rintro e w115 ⟨rfl, hb⟩; refine ⟨_, rfl, ?_⟩; have n0_ := Aside0.mk (Kd.R_below (by (with_reducible repeat (first | apply Kd.R_alloc | apply Kd.R_drewN | apply Kd.R_drew)); exact HO_0.out) hb); have n1_ := Aside0.mk (Kd.R_below (by (with_reducible repeat (first | apply Kd.R_alloc | apply Kd.R_drewN | apply Kd.R_drew)); exact HO236.out) hb); have n2_ := Aside0.mk (Kd.R_below (by (with_reducible repeat (first | apply Kd.R_alloc | apply Kd.R_drewN | apply Kd.R_drew)); exact HO239.out) hb); have n3_ := Aside0.mk (blk_below (g := gb214) (o := .cells #[.int .i32 a1_0, .int .i32 a1_1, .int .i32 a1_2, .int .u8 a1_3, .int .u8 a1_4, .int .u8 a1_5, .int .u8 a1_6] 26 (0, 0)) (by (with_reducible repeat (first | refine blk_drewN ?_ _ | refine blk_drew ?_ | refine blk_alloc ?_ _)); exact BK214.out) hb); have n4_ := Aside0.mk (blk_below (g := gb215) (o := .cells #[.int .i32 a2_0, .int .i32 a2_1, .int .i32 a2_2, .int .u8 a2_3, .int .u8 a2_4, .int .u8 a2_5, .int .u8 a2_6] 26 (0, 0)) (by (with_reducible repeat (first | refine blk_drewN ?_ _ | refine blk_drew ?_ | refine blk_alloc ?_ _)); exact BK215.out) hb); have n5_ := Aside0.mk (blk_below (g := gb216) (o := .cells #[.int .u8 a5_0, .int .u8 a5_1, .int .u8 a5_2] 24 (0, 0)) (by (with_reducible repeat (first | refine blk_drewN ?_ _ | refine blk_drew ?_ | refine blk_alloc ?_ _)); exact BK216.out) hb); have n6_ := Aside0.mk (below_step (by repeat (first | (with_reducible first | exact HB.out | apply below_alloc | apply pw_below_drewN | apply below_drew1 | refine below_set ?_ GE214.out | refine below_set ?_ GE215.out | refine below_set ?_ GE216.out) | exact HB.out)) hb); clear HO_0; clear HO236; clear HO239; clear BK214; clear BK215; clear BK216; clear HB; have HO_0 := n0_; have HO236 := n1_; have HO239 := n2_; have BK214 := n3_; have BK215 := n4_; have BK216 := n5_; have HB := n6_; clear n0_ n1_ n2_ n3_ n4_ n5_ n6_; (try clear hb); (try clear hb2); (try clear hk); (try clear hi); obtain ⟨Ao116, co116, eo116⟩ := Kd.R_slice HO236.out; subst eo116) | (go_at_call 39; (with_reducible refine (line_Fit.calls kj30 _ _ t234 a4 t241 _ ?side1 ?side2 A104.out).mono ?_); (case side1 => repeat (first | exact (Kd.R_reads' HO236.out).2.2 | (with_reducible refine Kd.C_alloc ?_ _) | (with_reducible refine Kd.C_drewN ?_ _) | (with_reducible refine Kd.C_drew ?_))); (case side2 => exact (Kd.R_reads' HO236.out).2.1); rintro e w117 ⟨v242, rfl, ho0, hb⟩; have n0_ := Aside0.mk (Kd.R_elder' (by (with_reducible repeat (first | apply Kd.R_alloc | apply Kd.R_drewN | apply Kd.R_drew)); exact HO_0.out) (Kd.R_base ho0) hb); have n1_ := Aside0.mk (Kd.R_elder' (by (with_reducible repeat (first | apply Kd.R_alloc | apply Kd.R_drewN | apply Kd.R_drew)); exact HO236.out) (Kd.R_base ho0) hb); have n2_ := Aside0.mk (Kd.R_elder' (by (with_reducible repeat (first | apply Kd.R_alloc | apply Kd.R_drewN | apply Kd.R_drew)); exact HO239.out) (Kd.R_base ho0) hb); have n3_ := Aside0.mk (Kd.R_lower (Kd.R_newB (Kd.R_newB (Kd.R_new' (Kd.R_new' (Kd.R_new' ho0 (Kd.R_lt (by (with_reducible repeat (first | apply Kd.R_alloc | apply Kd.R_drewN | apply Kd.R_drew)); exact HO_0.out))) (Kd.R_lt (by (with_reducible repeat (first | apply Kd.R_alloc | apply Kd.R_drewN | apply Kd.R_drew)); exact HO236.out))) (Kd.R_lt (by (with_reducible repeat (first | apply Kd.R_alloc | apply Kd.R_drewN | apply Kd.R_drew)); exact HO239.out))) (g := gb214) (o := .cells #[.int .i32 a1_0, .int .i32 a1_1, .int .i32 a1_2, .int .u8 a1_3, .int .u8 a1_4, .int .u8 a1_5, .int .u8 a1_6] 26 (0, 0)) (by (with_reducible repeat (first | refine blk_drewN ?_ _ | refine blk_drew ?_ | refine blk_alloc ?_ _)); exact BK214.out)) (g := gb215) (o := .cells #[.int .i32 a2_0, .int .i32 a2_1, .int .i32 a2_2, .int .u8 a2_3, .int .u8 a2_4, .int .u8 a2_5, .int .u8 a2_6] 26 (0, 0)) (by (with_reducible repeat (first | refine blk_drewN ?_ _ | refine blk_drew ?_ | refine blk_alloc ?_ _)); exact BK215.out)) (below_size (by repeat (first | (with_reducible first | exact HB.out | apply below_alloc | apply pw_below_drewN | apply below_drew1 | refine below_set ?_ GE214.out | refine below_set ?_ GE215.out | refine below_set ?_ GE216.out) | exact HB.out)))); have n4_ := Aside0.mk (blk_below (g := gb214) (o := .cells #[.int .i32 a1_0, .int .i32 a1_1, .int .i32 a1_2, .int .u8 a1_3, .int .u8 a1_4, .int .u8 a1_5, .int .u8 a1_6] 26 (0, 0)) (by (with_reducible repeat (first | refine blk_drewN ?_ _ | refine blk_drew ?_ | refine blk_alloc ?_ _)); exact BK214.out) hb); have n5_ := Aside0.mk (blk_below (g := gb215) (o := .cells #[.int .i32 a2_0, .int .i32 a2_1, .int .i32 a2_2, .int .u8 a2_3, .int .u8 a2_4, .int .u8 a2_5, .int .u8 a2_6] 26 (0, 0)) (by (with_reducible repeat (first | refine blk_drewN ?_ _ | refine blk_drew ?_ | refine blk_alloc ?_ _)); exact BK215.out) hb); have n6_ := Aside0.mk (blk_below (g := gb216) (o := .cells #[.int .u8 a5_0, .int .u8 a5_1, .int .u8 a5_2] 24 (0, 0)) (by (with_reducible repeat (first | refine blk_drewN ?_ _ | refine blk_drew ?_ | refine blk_alloc ?_ _)); exact BK216.out) hb); have n7_ := Aside0.mk (below_step (by repeat (first | (with_reducible first | exact HB.out | apply below_alloc | apply pw_below_drewN | apply below_drew1 | refine below_set ?_ GE214.out | refine below_set ?_ GE215.out | refine below_set ?_ GE216.out) | exact HB.out)) hb); clear HO_0; clear HO236; clear HO239; clear BK214; clear BK215; clear BK216; clear HB; have HO_0 := n0_; have HO236 := n1_; have HO239 := n2_; have HO243 := n3_; have BK214 := n4_; have BK215 := n5_; have BK216 := n6_; have HB := n7_; clear n0_ n1_ n2_ n3_ n4_ n5_ n6_ n7_; (try clear hb); (try clear hb2); (try clear hk); (try clear hi); (try clear ho0); obtain ⟨Ao118, co118, eo118⟩ := Kd.R_slice HO243.out; subst eo118) | (go_at_call 38; (with_reducible refine (line_Same.calls kj30 _ _ t241 _ _ t234 true _ ?side1 ?side2 ?side3 ?side4 A105.out).mono ?_); (case side1 => repeat (first | exact (Kd.R_reads' HO243.out).2.2 | (with_reducible refine Kd.C_alloc ?_ _) | (with_reducible refine Kd.C_drewN ?_ _) | (with_reducible refine Kd.C_drew ?_))); (case side2 => exact (Kd.R_reads' HO243.out).2.1); (case side3 => repeat (first | exact (Kd.R_reads' HO236.out).2.2 | (with_reducible refine Kd.C_alloc ?_ _) | (with_reducible refine Kd.C_drewN ?_ _) | (with_reducible refine Kd.C_drew ?_))); (case side4 => exact (Kd.R_reads' HO236.out).2.1); rintro e w' ⟨rfl, ⟨nd, rfl⟩⟩; have hcz119_0 : w117.cell? ⟨gb216, 0, none⟩ = some (.int .u8 a5_0) := (blk_cell BK216.out 0).trans rfl; have hcz119_1 : w117.cell? ⟨gb216, 1, none⟩ = some (.int .u8 a5_1) := (blk_cell BK216.out 1).trans rfl; have hcz119_2 : w117.cell? ⟨gb216, 2, none⟩ = some (.int .u8 a5_2) := (blk_cell BK216.out 2).trans rfl; have hfz119_0 := blk_frozen BK216.out 0; have hfz119_1 := blk_frozen BK216.out 1; have hfz119_2 := blk_frozen BK216.out 2; obtain ⟨Ao120, co120, eo120⟩ := Kd.R_slice HO239.out; subst eo120) | (go_at_call 40; (with_reducible refine (line_Erase.calls kj30 _ _ t237 a3 a4 a5_0 a5_1 a5_2 t245 _ ?side1 ?side2 A107.out).mono ?_); (case side1 => repeat (first | exact (Kd.R_reads' HO239.out).2.2 | (with_reducible refine Kd.C_alloc ?_ _) | (with_reducible refine Kd.C_drewN ?_ _) | (with_reducible refine Kd.C_drew ?_))); (case side2 => exact (Kd.R_reads' HO239.out).2.1); rintro e w121 ⟨v246, rfl, ho0, hb⟩; have n0_ := Aside0.mk (Kd.R_elder' (by (with_reducible repeat (first | apply Kd.R_alloc | apply Kd.R_drewN | apply Kd.R_drew)); exact HO_0.out) (Kd.R_base ho0) hb); have n1_ := Aside0.mk (Kd.R_elder' (by (with_reducible repeat (first | apply Kd.R_alloc | apply Kd.R_drewN | apply Kd.R_drew)); exact HO236.out) (Kd.R_base ho0) hb); have n2_ := Aside0.mk (Kd.R_elder' (by (with_reducible repeat (first | apply Kd.R_alloc | apply Kd.R_drewN | apply Kd.R_drew)); exact HO239.out) (Kd.R_base ho0) hb); have n3_ := Aside0.mk (Kd.R_elder' (by (with_reducible repeat (first | apply Kd.R_alloc | apply Kd.R_drewN | apply Kd.R_drew)); exact HO243.out) (Kd.R_base ho0) hb); have n4_ := Aside0.mk (Kd.R_lower (Kd.R_newB (Kd.R_newB (Kd.R_new' (Kd.R_new' (Kd.R_new' (Kd.R_new' ho0 (Kd.R_lt (by (with_reducible repeat (first | apply Kd.R_alloc | apply Kd.R_drewN | apply Kd.R_drew)); exact HO_0.out))) (Kd.R_lt (by (with_reducible repeat (first | apply Kd.R_alloc | apply Kd.R_drewN | apply Kd.R_drew)); exact HO236.out))) (Kd.R_lt (by (with_reducible repeat (first | apply Kd.R_alloc | apply Kd.R_drewN | apply Kd.R_drew)); exact HO239.out))) (Kd.R_lt (by (with_reducible repeat (first | apply Kd.R_alloc | apply Kd.R_drewN | apply Kd.R_drew)); exact HO243.out))) (g := gb214) (o := .cells #[.int .i32 a1_0, .int .i32 a1_1, .int .i32 a1_2, .int .u8 a1_3, .int .u8 a1_4, .int .u8 a1_5, .int .u8 a1_6] 26 (0, 0)) (by (with_reducible repeat (first | refine blk_drewN ?_ _ | refine blk_drew ?_ | refine blk_alloc ?_ _)); exact BK214.out)) (g := gb215) (o := .cells #[.int .i32 a2_0, .int .i32 a2_1, .int .i32 a2_2, .int .u8 a2_3, .int .u8 a2_4, .int .u8 a2_5, .int .u8 a2_6] 26 (0, 0)) (by (with_reducible repeat (first | refine blk_drewN ?_ _ | refine blk_drew ?_ | refine blk_alloc ?_ _)); exact BK215.out)) (below_size (by repeat (first | (with_reducible first | exact HB.out | apply below_alloc | apply pw_below_drewN | apply below_drew1 | refine below_set ?_ GE214.out | refine below_set ?_ GE215.out | refine below_set ?_ GE216.out) | exact HB.out)))); have n5_ := Aside0.mk (blk_below (g := gb214) (o := .cells #[.int .i32 a1_0, .int .i32 a1_1, .int .i32 a1_2, .int .u8 a1_3, .int .u8 a1_4, .int .u8 a1_5, .int .u8 a1_6] 26 (0, 0)) (by (with_reducible repeat (first | refine blk_drewN ?_ _ | refine blk_drew ?_ | refine blk_alloc ?_ _)); exact BK214.out) hb); have n6_ := Aside0.mk (blk_below (g := gb215) (o := .cells #[.int .i32 a2_0, .int .i32 a2_1, .int .i32 a2_2, .int .u8 a2_3, .int .u8 a2_4, .int .u8 a2_5, .int .u8 a2_6] 26 (0, 0)) (by (with_reducible repeat (first | refine blk_drewN ?_ _ | refine blk_drew ?_ | refine blk_alloc ?_ _)); exact BK215.out) hb); have n7_ := Aside0.mk (blk_below (g := gb216) (o := .cells #[.int .u8 a5_0, .int .u8 a5_1, .int .u8 a5_2] 24 (0, 0)) (by (with_reducible repeat (first | refine blk_drewN ?_ _ | refine blk_drew ?_ | refine blk_alloc ?_ _)); exact BK216.out) hb); have n8_ := Aside0.mk (below_step (by repeat (first | (with_reducible first | exact HB.out | apply below_alloc | apply pw_below_drewN | apply below_drew1 | refine below_set ?_ GE214.out | refine below_set ?_ GE215.out | refine below_set ?_ GE216.out) | exact HB.out)) hb); clear HO_0; clear HO236; clear HO239; clear HO243; clear BK214; clear BK215; clear BK216; clear HB; have HO_0 := n0_; have HO236 := n1_; have HO239 := n2_; have HO243 := n3_; have HO247 := n4_; have BK214 := n5_; have BK215 := n6_; have BK216 := n7_; have HB := n8_; clear n0_ n1_ n2_ n3_ n4_ n5_ n6_ n7_ n8_; (try clear hb); (try clear hb2); (try clear hk); (try clear hi); (try clear ho0); obtain ⟨Ao122, co122, eo122⟩ := Kd.R_slice HO247.out; subst eo122) | (go_at_call 38; (with_reducible refine (line_Same.calls kj30 _ _ t245 _ _ t237 t248 _ ?side1 ?side2 ?side3 ?side4 A108.out).mono ?_); (case side1 => repeat (first | exact (Kd.R_reads' HO247.out).2.2 | (with_reducible refine Kd.C_alloc ?_ _) | (with_reducible refine Kd.C_drewN ?_ _) | (with_reducible refine Kd.C_drew ?_))); (case side2 => exact (Kd.R_reads' HO247.out).2.1); (case side3 => repeat (first | exact (Kd.R_reads' HO239.out).2.2 | (with_reducible refine Kd.C_alloc ?_ _) | (with_reducible refine Kd.C_drewN ?_ _) | (with_reducible refine Kd.C_drew ?_))); (case side4 => exact (Kd.R_reads' HO239.out).2.1); rintro e w' ⟨rfl, ⟨nd, rfl⟩⟩))
              go_ret
              exact ⟨by first | rfl | (simp [errW_none, errW_some] <;> rfl) | (simp [*, errW_none, errW_some] <;> rfl), by repeat (first | (with_reducible first | exact HB.out | apply below_alloc | apply pw_below_drewN | apply below_drew1 | refine below_set ?_ GE214.out | refine below_set ?_ GE215.out | refine below_set ?_ GE216.out) | exact HB.out)⟩
            · replace c106 := Bool.eq_false_iff.mpr c106
              subst c106
              have H1 : (some false) = some r := by rw [if_neg (show ¬ (false = true) by decide)] at H; exact H
              clear H
              have H := H1
              clear H1
              obtain rfl := Option.some.inj H
              obtain ⟨Ao123, co123, eo123⟩ := Kd.R_slice HO_0.out
              subst eo123
              go_wp2_with (first | ((with_reducible refine gate_callee (f := 39) rfl ?_); refine goesL_ (some 71) rfl rfl Try.func39 (by kernel_rfl) rfl #[.slice Ao123 t217.length co123, .int .i64 a4] rfl (by (try simp only [List.map_toArray, List.map_cons, List.map_nil]); first | done | rfl | (simp only [List.length_drop, List.length_take]; rfl)) ?_; (with_reducible refine (line_Fit.calls kj30 _ _ t217 a4 t234 _ ?side1 ?side2 A100.out).mono ?_); (case side1 => repeat (first | exact (Kd.R_reads' HO_0.out).2.2 | (with_reducible refine Kd.C_alloc ?_ _) | (with_reducible refine Kd.C_drewN ?_ _) | (with_reducible refine Kd.C_drew ?_))); (case side2 => exact (Kd.R_reads' HO_0.out).2.1); rintro e w124 ⟨v235, rfl, ho0, hb⟩; refine ⟨_, rfl, ?_⟩; have n0_ := Aside0.mk (Kd.R_elder' (by (with_reducible repeat (first | apply Kd.R_alloc | apply Kd.R_drewN | apply Kd.R_drew)); exact HO_0.out) (Kd.R_base ho0) hb); have n1_ := Aside0.mk (Kd.R_lower (Kd.R_newB (Kd.R_newB (Kd.R_new' ho0 (Kd.R_lt (by (with_reducible repeat (first | apply Kd.R_alloc | apply Kd.R_drewN | apply Kd.R_drew)); exact HO_0.out))) (g := gb214) (o := .cells #[.int .i32 a1_0, .int .i32 a1_1, .int .i32 a1_2, .int .u8 a1_3, .int .u8 a1_4, .int .u8 a1_5, .int .u8 a1_6] 26 (0, 0)) (by (with_reducible repeat (first | refine blk_drewN ?_ _ | refine blk_drew ?_ | refine blk_alloc ?_ _)); exact BK214.out)) (g := gb215) (o := .cells #[.int .i32 a2_0, .int .i32 a2_1, .int .i32 a2_2, .int .u8 a2_3, .int .u8 a2_4, .int .u8 a2_5, .int .u8 a2_6] 26 (0, 0)) (by (with_reducible repeat (first | refine blk_drewN ?_ _ | refine blk_drew ?_ | refine blk_alloc ?_ _)); exact BK215.out)) (below_size (by repeat (first | (with_reducible first | exact HB.out | apply below_alloc | apply pw_below_drewN | apply below_drew1 | refine below_set ?_ GE214.out | refine below_set ?_ GE215.out | refine below_set ?_ GE216.out) | exact HB.out)))); have n2_ := Aside0.mk (blk_below (g := gb214) (o := .cells #[.int .i32 a1_0, .int .i32 a1_1, .int .i32 a1_2, .int .u8 a1_3, .int .u8 a1_4, .int .u8 a1_5, .int .u8 a1_6] 26 (0, 0)) (by (with_reducible repeat (first | refine blk_drewN ?_ _ | refine blk_drew ?_ | refine blk_alloc ?_ _)); exact BK214.out) hb); have n3_ := Aside0.mk (blk_below (g := gb215) (o := .cells #[.int .i32 a2_0, .int .i32 a2_1, .int .i32 a2_2, .int .u8 a2_3, .int .u8 a2_4, .int .u8 a2_5, .int .u8 a2_6] 26 (0, 0)) (by (with_reducible repeat (first | refine blk_drewN ?_ _ | refine blk_drew ?_ | refine blk_alloc ?_ _)); exact BK215.out) hb); have n4_ := Aside0.mk (blk_below (g := gb216) (o := .cells #[.int .u8 a5_0, .int .u8 a5_1, .int .u8 a5_2] 24 (0, 0)) (by (with_reducible repeat (first | refine blk_drewN ?_ _ | refine blk_drew ?_ | refine blk_alloc ?_ _)); exact BK216.out) hb); have n5_ := Aside0.mk (below_step (by repeat (first | (with_reducible first | exact HB.out | apply below_alloc | apply pw_below_drewN | apply below_drew1 | refine below_set ?_ GE214.out | refine below_set ?_ GE215.out | refine below_set ?_ GE216.out) | exact HB.out)) hb); clear HO_0; clear BK214; clear BK215; clear BK216; clear HB; have HO_0 := n0_; have HO236 := n1_; have BK214 := n2_; have BK215 := n3_; have BK216 := n4_; have HB := n5_; clear n0_ n1_ n2_ n3_ n4_ n5_; (try clear hb); (try clear hb2); (try clear hk); (try clear hi); (try clear ho0); have hnb125 := NB216_214.out; have hnc125 := NB214_216.out; have hnb126 := NB216_215.out; have hnc126 := NB215_216.out; have hcz127_0 : w124.cell? ⟨gb216, 0, none⟩ = some (.int .u8 a5_0) := (blk_cell BK216.out 0).trans rfl; have hcz127_1 : w124.cell? ⟨gb216, 1, none⟩ = some (.int .u8 a5_1) := (blk_cell BK216.out 1).trans rfl; have hcz127_2 : w124.cell? ⟨gb216, 2, none⟩ = some (.int .u8 a5_2) := (blk_cell BK216.out 2).trans rfl; have hfz127_0 := blk_frozen BK216.out 0; have hfz127_1 := blk_frozen BK216.out 1; have hfz127_2 := blk_frozen BK216.out 2) | ((with_reducible refine gate_callee (f := 40) rfl ?_); refine goesL_ (some 76) rfl rfl Try.func40 (by kernel_rfl) rfl #[.slice Ao123 t217.length co123, .int .i64 a3, .int .i64 a4, .agg #[.int .u8 a5_0, .int .u8 a5_1, .int .u8 a5_2]] rfl (by (try simp only [List.map_toArray, List.map_cons, List.map_nil]); first | done | rfl | (simp only [List.length_drop, List.length_take]; rfl)) ?_; (with_reducible refine (line_Erase.calls kj30 _ _ t217 a3 a4 a5_0 a5_1 a5_2 t237 _ ?side1 ?side2 A101.out).mono ?_); (case side1 => repeat (first | exact (Kd.R_reads' HO_0.out).2.2 | (with_reducible refine Kd.C_alloc ?_ _) | (with_reducible refine Kd.C_drewN ?_ _) | (with_reducible refine Kd.C_drew ?_))); (case side2 => exact (Kd.R_reads' HO_0.out).2.1); rintro e w128 ⟨v238, rfl, ho0, hb⟩; refine ⟨_, rfl, ?_⟩; have n0_ := Aside0.mk (Kd.R_elder' (by (with_reducible repeat (first | apply Kd.R_alloc | apply Kd.R_drewN | apply Kd.R_drew)); exact HO_0.out) (Kd.R_base ho0) hb); have n1_ := Aside0.mk (Kd.R_elder' (by (with_reducible repeat (first | apply Kd.R_alloc | apply Kd.R_drewN | apply Kd.R_drew)); exact HO236.out) (Kd.R_base ho0) hb); have n2_ := Aside0.mk (Kd.R_lower (Kd.R_newB (Kd.R_newB (Kd.R_new' (Kd.R_new' ho0 (Kd.R_lt (by (with_reducible repeat (first | apply Kd.R_alloc | apply Kd.R_drewN | apply Kd.R_drew)); exact HO_0.out))) (Kd.R_lt (by (with_reducible repeat (first | apply Kd.R_alloc | apply Kd.R_drewN | apply Kd.R_drew)); exact HO236.out))) (g := gb214) (o := .cells #[.int .i32 a1_0, .int .i32 a1_1, .int .i32 a1_2, .int .u8 a1_3, .int .u8 a1_4, .int .u8 a1_5, .int .u8 a1_6] 26 (0, 0)) (by (with_reducible repeat (first | refine blk_drewN ?_ _ | refine blk_drew ?_ | refine blk_alloc ?_ _)); exact BK214.out)) (g := gb215) (o := .cells #[.int .i32 a2_0, .int .i32 a2_1, .int .i32 a2_2, .int .u8 a2_3, .int .u8 a2_4, .int .u8 a2_5, .int .u8 a2_6] 26 (0, 0)) (by (with_reducible repeat (first | refine blk_drewN ?_ _ | refine blk_drew ?_ | refine blk_alloc ?_ _)); exact BK215.out)) (below_size (by repeat (first | (with_reducible first | exact HB.out | apply below_alloc | apply pw_below_drewN | apply below_drew1 | refine below_set ?_ GE214.out | refine below_set ?_ GE215.out | refine below_set ?_ GE216.out) | exact HB.out)))); have n3_ := Aside0.mk (blk_below (g := gb214) (o := .cells #[.int .i32 a1_0, .int .i32 a1_1, .int .i32 a1_2, .int .u8 a1_3, .int .u8 a1_4, .int .u8 a1_5, .int .u8 a1_6] 26 (0, 0)) (by (with_reducible repeat (first | refine blk_drewN ?_ _ | refine blk_drew ?_ | refine blk_alloc ?_ _)); exact BK214.out) hb); have n4_ := Aside0.mk (blk_below (g := gb215) (o := .cells #[.int .i32 a2_0, .int .i32 a2_1, .int .i32 a2_2, .int .u8 a2_3, .int .u8 a2_4, .int .u8 a2_5, .int .u8 a2_6] 26 (0, 0)) (by (with_reducible repeat (first | refine blk_drewN ?_ _ | refine blk_drew ?_ | refine blk_alloc ?_ _)); exact BK215.out) hb); have n5_ := Aside0.mk (blk_below (g := gb216) (o := .cells #[.int .u8 a5_0, .int .u8 a5_1, .int .u8 a5_2] 24 (0, 0)) (by (with_reducible repeat (first | refine blk_drewN ?_ _ | refine blk_drew ?_ | refine blk_alloc ?_ _)); exact BK216.out) hb); have n6_ := Aside0.mk (below_step (by repeat (first | (with_reducible first | exact HB.out | apply below_alloc | apply pw_below_drewN | apply below_drew1 | refine below_set ?_ GE214.out | refine below_set ?_ GE215.out | refine below_set ?_ GE216.out) | exact HB.out)) hb); clear HO_0; clear HO236; clear BK214; clear BK215; clear BK216; clear HB; have HO_0 := n0_; have HO236 := n1_; have HO239 := n2_; have BK214 := n3_; have BK215 := n4_; have BK216 := n5_; have HB := n6_; clear n0_ n1_ n2_ n3_ n4_ n5_ n6_; (try clear hb); (try clear hb2); (try clear hk); (try clear hi); (try clear ho0)) | ((with_reducible refine gate_callee (f := 41) rfl ?_); refine goesL_ (some 77) rfl rfl Try.func41 (by kernel_rfl) rfl #[] rfl (by (try simp only [List.map_toArray, List.map_cons, List.map_nil]); first | done | rfl | (simp only [List.length_drop, List.length_take]; rfl)) ?_; (with_reducible refine (prolepsislaw06_known.calls  true _ A102.out).mono ?_); rintro e w129 ⟨rfl, hb⟩; refine ⟨_, rfl, ?_⟩; have n0_ := Aside0.mk (Kd.R_below (by (with_reducible repeat (first | apply Kd.R_alloc | apply Kd.R_drewN | apply Kd.R_drew)); exact HO_0.out) hb); have n1_ := Aside0.mk (Kd.R_below (by (with_reducible repeat (first | apply Kd.R_alloc | apply Kd.R_drewN | apply Kd.R_drew)); exact HO236.out) hb); have n2_ := Aside0.mk (Kd.R_below (by (with_reducible repeat (first | apply Kd.R_alloc | apply Kd.R_drewN | apply Kd.R_drew)); exact HO239.out) hb); have n3_ := Aside0.mk (blk_below (g := gb214) (o := .cells #[.int .i32 a1_0, .int .i32 a1_1, .int .i32 a1_2, .int .u8 a1_3, .int .u8 a1_4, .int .u8 a1_5, .int .u8 a1_6] 26 (0, 0)) (by (with_reducible repeat (first | refine blk_drewN ?_ _ | refine blk_drew ?_ | refine blk_alloc ?_ _)); exact BK214.out) hb); have n4_ := Aside0.mk (blk_below (g := gb215) (o := .cells #[.int .i32 a2_0, .int .i32 a2_1, .int .i32 a2_2, .int .u8 a2_3, .int .u8 a2_4, .int .u8 a2_5, .int .u8 a2_6] 26 (0, 0)) (by (with_reducible repeat (first | refine blk_drewN ?_ _ | refine blk_drew ?_ | refine blk_alloc ?_ _)); exact BK215.out) hb); have n5_ := Aside0.mk (blk_below (g := gb216) (o := .cells #[.int .u8 a5_0, .int .u8 a5_1, .int .u8 a5_2] 24 (0, 0)) (by (with_reducible repeat (first | refine blk_drewN ?_ _ | refine blk_drew ?_ | refine blk_alloc ?_ _)); exact BK216.out) hb); have n6_ := Aside0.mk (below_step (by repeat (first | (with_reducible first | exact HB.out | apply below_alloc | apply pw_below_drewN | apply below_drew1 | refine below_set ?_ GE214.out | refine below_set ?_ GE215.out | refine below_set ?_ GE216.out) | exact HB.out)) hb); clear HO_0; clear HO236; clear HO239; clear BK214; clear BK215; clear BK216; clear HB; have HO_0 := n0_; have HO236 := n1_; have HO239 := n2_; have BK214 := n3_; have BK215 := n4_; have BK216 := n5_; have HB := n6_; clear n0_ n1_ n2_ n3_ n4_ n5_ n6_; (try clear hb); (try clear hb2); (try clear hk); (try clear hi); obtain ⟨Ao130, co130, eo130⟩ := Kd.R_slice HO236.out; subst eo130) | (go_at_call 39; (with_reducible refine (line_Fit.calls kj30 _ _ t234 a4 t241 _ ?side1 ?side2 A104.out).mono ?_); (case side1 => repeat (first | exact (Kd.R_reads' HO236.out).2.2 | (with_reducible refine Kd.C_alloc ?_ _) | (with_reducible refine Kd.C_drewN ?_ _) | (with_reducible refine Kd.C_drew ?_))); (case side2 => exact (Kd.R_reads' HO236.out).2.1); rintro e w131 ⟨v242, rfl, ho0, hb⟩; have n0_ := Aside0.mk (Kd.R_elder' (by (with_reducible repeat (first | apply Kd.R_alloc | apply Kd.R_drewN | apply Kd.R_drew)); exact HO_0.out) (Kd.R_base ho0) hb); have n1_ := Aside0.mk (Kd.R_elder' (by (with_reducible repeat (first | apply Kd.R_alloc | apply Kd.R_drewN | apply Kd.R_drew)); exact HO236.out) (Kd.R_base ho0) hb); have n2_ := Aside0.mk (Kd.R_elder' (by (with_reducible repeat (first | apply Kd.R_alloc | apply Kd.R_drewN | apply Kd.R_drew)); exact HO239.out) (Kd.R_base ho0) hb); have n3_ := Aside0.mk (Kd.R_lower (Kd.R_newB (Kd.R_newB (Kd.R_new' (Kd.R_new' (Kd.R_new' ho0 (Kd.R_lt (by (with_reducible repeat (first | apply Kd.R_alloc | apply Kd.R_drewN | apply Kd.R_drew)); exact HO_0.out))) (Kd.R_lt (by (with_reducible repeat (first | apply Kd.R_alloc | apply Kd.R_drewN | apply Kd.R_drew)); exact HO236.out))) (Kd.R_lt (by (with_reducible repeat (first | apply Kd.R_alloc | apply Kd.R_drewN | apply Kd.R_drew)); exact HO239.out))) (g := gb214) (o := .cells #[.int .i32 a1_0, .int .i32 a1_1, .int .i32 a1_2, .int .u8 a1_3, .int .u8 a1_4, .int .u8 a1_5, .int .u8 a1_6] 26 (0, 0)) (by (with_reducible repeat (first | refine blk_drewN ?_ _ | refine blk_drew ?_ | refine blk_alloc ?_ _)); exact BK214.out)) (g := gb215) (o := .cells #[.int .i32 a2_0, .int .i32 a2_1, .int .i32 a2_2, .int .u8 a2_3, .int .u8 a2_4, .int .u8 a2_5, .int .u8 a2_6] 26 (0, 0)) (by (with_reducible repeat (first | refine blk_drewN ?_ _ | refine blk_drew ?_ | refine blk_alloc ?_ _)); exact BK215.out)) (below_size (by repeat (first | (with_reducible first | exact HB.out | apply below_alloc | apply pw_below_drewN | apply below_drew1 | refine below_set ?_ GE214.out | refine below_set ?_ GE215.out | refine below_set ?_ GE216.out) | exact HB.out)))); have n4_ := Aside0.mk (blk_below (g := gb214) (o := .cells #[.int .i32 a1_0, .int .i32 a1_1, .int .i32 a1_2, .int .u8 a1_3, .int .u8 a1_4, .int .u8 a1_5, .int .u8 a1_6] 26 (0, 0)) (by (with_reducible repeat (first | refine blk_drewN ?_ _ | refine blk_drew ?_ | refine blk_alloc ?_ _)); exact BK214.out) hb); have n5_ := Aside0.mk (blk_below (g := gb215) (o := .cells #[.int .i32 a2_0, .int .i32 a2_1, .int .i32 a2_2, .int .u8 a2_3, .int .u8 a2_4, .int .u8 a2_5, .int .u8 a2_6] 26 (0, 0)) (by (with_reducible repeat (first | refine blk_drewN ?_ _ | refine blk_drew ?_ | refine blk_alloc ?_ _)); exact BK215.out) hb); have n6_ := Aside0.mk (blk_below (g := gb216) (o := .cells #[.int .u8 a5_0, .int .u8 a5_1, .int .u8 a5_2] 24 (0, 0)) (by (with_reducible repeat (first | refine blk_drewN ?_ _ | refine blk_drew ?_ | refine blk_alloc ?_ _)); exact BK216.out) hb); have n7_ := Aside0.mk (below_step (by repeat (first | (with_reducible first | exact HB.out | apply below_alloc | apply pw_below_drewN | apply below_drew1 | refine below_set ?_ GE214.out | refine below_set ?_ GE215.out | refine below_set ?_ GE216.out) | exact HB.out)) hb); clear HO_0; clear HO236; clear HO239; clear BK214; clear BK215; clear BK216; clear HB; have HO_0 := n0_; have HO236 := n1_; have HO239 := n2_; have HO243 := n3_; have BK214 := n4_; have BK215 := n5_; have BK216 := n6_; have HB := n7_; clear n0_ n1_ n2_ n3_ n4_ n5_ n6_ n7_; (try clear hb); (try clear hb2); (try clear hk); (try clear hi); (try clear ho0); obtain ⟨Ao132, co132, eo132⟩ := Kd.R_slice HO243.out; subst eo132) | (go_at_call 38; (with_reducible refine (line_Same.calls kj30 _ _ t241 _ _ t234 false _ ?side1 ?side2 ?side3 ?side4 A105.out).mono ?_); (case side1 => repeat (first | exact (Kd.R_reads' HO243.out).2.2 | (with_reducible refine Kd.C_alloc ?_ _) | (with_reducible refine Kd.C_drewN ?_ _) | (with_reducible refine Kd.C_drew ?_))); (case side2 => exact (Kd.R_reads' HO243.out).2.1); (case side3 => repeat (first | exact (Kd.R_reads' HO236.out).2.2 | (with_reducible refine Kd.C_alloc ?_ _) | (with_reducible refine Kd.C_drewN ?_ _) | (with_reducible refine Kd.C_drew ?_))); (case side4 => exact (Kd.R_reads' HO236.out).2.1); rintro e w' ⟨rfl, ⟨nd, rfl⟩⟩))
              go_ret
              exact ⟨by first | rfl | (simp [errW_none, errW_some] <;> rfl) | (simp [*, errW_none, errW_some] <;> rfl), by repeat (first | (with_reducible first | exact HB.out | apply below_alloc | apply pw_below_drewN | apply below_drew1 | refine below_set ?_ GE214.out | refine below_set ?_ GE215.out | refine below_set ?_ GE216.out) | exact HB.out)⟩
          · replace c103 := Bool.eq_false_iff.mpr c103
            subst c103
            have H1 : (some false) = some r := by rw [if_neg (show ¬ (false = true) by decide)] at H; exact H
            clear H
            have H := H1
            clear H1
            obtain rfl := Option.some.inj H
            obtain ⟨Ao133, co133, eo133⟩ := Kd.R_slice HO_0.out
            subst eo133
            go_wp2_with (first | ((with_reducible refine gate_callee (f := 39) rfl ?_); refine goesL_ (some 71) rfl rfl Try.func39 (by kernel_rfl) rfl #[.slice Ao133 t217.length co133, .int .i64 a4] rfl (by (try simp only [List.map_toArray, List.map_cons, List.map_nil]); first | done | rfl | (simp only [List.length_drop, List.length_take]; rfl)) ?_; (with_reducible refine (line_Fit.calls kj30 _ _ t217 a4 t234 _ ?side1 ?side2 A100.out).mono ?_); (case side1 => repeat (first | exact (Kd.R_reads' HO_0.out).2.2 | (with_reducible refine Kd.C_alloc ?_ _) | (with_reducible refine Kd.C_drewN ?_ _) | (with_reducible refine Kd.C_drew ?_))); (case side2 => exact (Kd.R_reads' HO_0.out).2.1); rintro e w134 ⟨v235, rfl, ho0, hb⟩; refine ⟨_, rfl, ?_⟩; have n0_ := Aside0.mk (Kd.R_elder' (by (with_reducible repeat (first | apply Kd.R_alloc | apply Kd.R_drewN | apply Kd.R_drew)); exact HO_0.out) (Kd.R_base ho0) hb); have n1_ := Aside0.mk (Kd.R_lower (Kd.R_newB (Kd.R_newB (Kd.R_new' ho0 (Kd.R_lt (by (with_reducible repeat (first | apply Kd.R_alloc | apply Kd.R_drewN | apply Kd.R_drew)); exact HO_0.out))) (g := gb214) (o := .cells #[.int .i32 a1_0, .int .i32 a1_1, .int .i32 a1_2, .int .u8 a1_3, .int .u8 a1_4, .int .u8 a1_5, .int .u8 a1_6] 26 (0, 0)) (by (with_reducible repeat (first | refine blk_drewN ?_ _ | refine blk_drew ?_ | refine blk_alloc ?_ _)); exact BK214.out)) (g := gb215) (o := .cells #[.int .i32 a2_0, .int .i32 a2_1, .int .i32 a2_2, .int .u8 a2_3, .int .u8 a2_4, .int .u8 a2_5, .int .u8 a2_6] 26 (0, 0)) (by (with_reducible repeat (first | refine blk_drewN ?_ _ | refine blk_drew ?_ | refine blk_alloc ?_ _)); exact BK215.out)) (below_size (by repeat (first | (with_reducible first | exact HB.out | apply below_alloc | apply pw_below_drewN | apply below_drew1 | refine below_set ?_ GE214.out | refine below_set ?_ GE215.out | refine below_set ?_ GE216.out) | exact HB.out)))); have n2_ := Aside0.mk (blk_below (g := gb214) (o := .cells #[.int .i32 a1_0, .int .i32 a1_1, .int .i32 a1_2, .int .u8 a1_3, .int .u8 a1_4, .int .u8 a1_5, .int .u8 a1_6] 26 (0, 0)) (by (with_reducible repeat (first | refine blk_drewN ?_ _ | refine blk_drew ?_ | refine blk_alloc ?_ _)); exact BK214.out) hb); have n3_ := Aside0.mk (blk_below (g := gb215) (o := .cells #[.int .i32 a2_0, .int .i32 a2_1, .int .i32 a2_2, .int .u8 a2_3, .int .u8 a2_4, .int .u8 a2_5, .int .u8 a2_6] 26 (0, 0)) (by (with_reducible repeat (first | refine blk_drewN ?_ _ | refine blk_drew ?_ | refine blk_alloc ?_ _)); exact BK215.out) hb); have n4_ := Aside0.mk (blk_below (g := gb216) (o := .cells #[.int .u8 a5_0, .int .u8 a5_1, .int .u8 a5_2] 24 (0, 0)) (by (with_reducible repeat (first | refine blk_drewN ?_ _ | refine blk_drew ?_ | refine blk_alloc ?_ _)); exact BK216.out) hb); have n5_ := Aside0.mk (below_step (by repeat (first | (with_reducible first | exact HB.out | apply below_alloc | apply pw_below_drewN | apply below_drew1 | refine below_set ?_ GE214.out | refine below_set ?_ GE215.out | refine below_set ?_ GE216.out) | exact HB.out)) hb); clear HO_0; clear BK214; clear BK215; clear BK216; clear HB; have HO_0 := n0_; have HO236 := n1_; have BK214 := n2_; have BK215 := n3_; have BK216 := n4_; have HB := n5_; clear n0_ n1_ n2_ n3_ n4_ n5_; (try clear hb); (try clear hb2); (try clear hk); (try clear hi); (try clear ho0); have hnb135 := NB216_214.out; have hnc135 := NB214_216.out; have hnb136 := NB216_215.out; have hnc136 := NB215_216.out; have hcz137_0 : w134.cell? ⟨gb216, 0, none⟩ = some (.int .u8 a5_0) := (blk_cell BK216.out 0).trans rfl; have hcz137_1 : w134.cell? ⟨gb216, 1, none⟩ = some (.int .u8 a5_1) := (blk_cell BK216.out 1).trans rfl; have hcz137_2 : w134.cell? ⟨gb216, 2, none⟩ = some (.int .u8 a5_2) := (blk_cell BK216.out 2).trans rfl; have hfz137_0 := blk_frozen BK216.out 0; have hfz137_1 := blk_frozen BK216.out 1; have hfz137_2 := blk_frozen BK216.out 2) | ((with_reducible refine gate_callee (f := 40) rfl ?_); refine goesL_ (some 76) rfl rfl Try.func40 (by kernel_rfl) rfl #[.slice Ao133 t217.length co133, .int .i64 a3, .int .i64 a4, .agg #[.int .u8 a5_0, .int .u8 a5_1, .int .u8 a5_2]] rfl (by (try simp only [List.map_toArray, List.map_cons, List.map_nil]); first | done | rfl | (simp only [List.length_drop, List.length_take]; rfl)) ?_; (with_reducible refine (line_Erase.calls kj30 _ _ t217 a3 a4 a5_0 a5_1 a5_2 t237 _ ?side1 ?side2 A101.out).mono ?_); (case side1 => repeat (first | exact (Kd.R_reads' HO_0.out).2.2 | (with_reducible refine Kd.C_alloc ?_ _) | (with_reducible refine Kd.C_drewN ?_ _) | (with_reducible refine Kd.C_drew ?_))); (case side2 => exact (Kd.R_reads' HO_0.out).2.1); rintro e w138 ⟨v238, rfl, ho0, hb⟩; refine ⟨_, rfl, ?_⟩; have n0_ := Aside0.mk (Kd.R_elder' (by (with_reducible repeat (first | apply Kd.R_alloc | apply Kd.R_drewN | apply Kd.R_drew)); exact HO_0.out) (Kd.R_base ho0) hb); have n1_ := Aside0.mk (Kd.R_elder' (by (with_reducible repeat (first | apply Kd.R_alloc | apply Kd.R_drewN | apply Kd.R_drew)); exact HO236.out) (Kd.R_base ho0) hb); have n2_ := Aside0.mk (Kd.R_lower (Kd.R_newB (Kd.R_newB (Kd.R_new' (Kd.R_new' ho0 (Kd.R_lt (by (with_reducible repeat (first | apply Kd.R_alloc | apply Kd.R_drewN | apply Kd.R_drew)); exact HO_0.out))) (Kd.R_lt (by (with_reducible repeat (first | apply Kd.R_alloc | apply Kd.R_drewN | apply Kd.R_drew)); exact HO236.out))) (g := gb214) (o := .cells #[.int .i32 a1_0, .int .i32 a1_1, .int .i32 a1_2, .int .u8 a1_3, .int .u8 a1_4, .int .u8 a1_5, .int .u8 a1_6] 26 (0, 0)) (by (with_reducible repeat (first | refine blk_drewN ?_ _ | refine blk_drew ?_ | refine blk_alloc ?_ _)); exact BK214.out)) (g := gb215) (o := .cells #[.int .i32 a2_0, .int .i32 a2_1, .int .i32 a2_2, .int .u8 a2_3, .int .u8 a2_4, .int .u8 a2_5, .int .u8 a2_6] 26 (0, 0)) (by (with_reducible repeat (first | refine blk_drewN ?_ _ | refine blk_drew ?_ | refine blk_alloc ?_ _)); exact BK215.out)) (below_size (by repeat (first | (with_reducible first | exact HB.out | apply below_alloc | apply pw_below_drewN | apply below_drew1 | refine below_set ?_ GE214.out | refine below_set ?_ GE215.out | refine below_set ?_ GE216.out) | exact HB.out)))); have n3_ := Aside0.mk (blk_below (g := gb214) (o := .cells #[.int .i32 a1_0, .int .i32 a1_1, .int .i32 a1_2, .int .u8 a1_3, .int .u8 a1_4, .int .u8 a1_5, .int .u8 a1_6] 26 (0, 0)) (by (with_reducible repeat (first | refine blk_drewN ?_ _ | refine blk_drew ?_ | refine blk_alloc ?_ _)); exact BK214.out) hb); have n4_ := Aside0.mk (blk_below (g := gb215) (o := .cells #[.int .i32 a2_0, .int .i32 a2_1, .int .i32 a2_2, .int .u8 a2_3, .int .u8 a2_4, .int .u8 a2_5, .int .u8 a2_6] 26 (0, 0)) (by (with_reducible repeat (first | refine blk_drewN ?_ _ | refine blk_drew ?_ | refine blk_alloc ?_ _)); exact BK215.out) hb); have n5_ := Aside0.mk (blk_below (g := gb216) (o := .cells #[.int .u8 a5_0, .int .u8 a5_1, .int .u8 a5_2] 24 (0, 0)) (by (with_reducible repeat (first | refine blk_drewN ?_ _ | refine blk_drew ?_ | refine blk_alloc ?_ _)); exact BK216.out) hb); have n6_ := Aside0.mk (below_step (by repeat (first | (with_reducible first | exact HB.out | apply below_alloc | apply pw_below_drewN | apply below_drew1 | refine below_set ?_ GE214.out | refine below_set ?_ GE215.out | refine below_set ?_ GE216.out) | exact HB.out)) hb); clear HO_0; clear HO236; clear BK214; clear BK215; clear BK216; clear HB; have HO_0 := n0_; have HO236 := n1_; have HO239 := n2_; have BK214 := n3_; have BK215 := n4_; have BK216 := n5_; have HB := n6_; clear n0_ n1_ n2_ n3_ n4_ n5_ n6_; (try clear hb); (try clear hb2); (try clear hk); (try clear hi); (try clear ho0)) | ((with_reducible refine gate_callee (f := 41) rfl ?_); refine goesL_ (some 77) rfl rfl Try.func41 (by kernel_rfl) rfl #[] rfl (by (try simp only [List.map_toArray, List.map_cons, List.map_nil]); first | done | rfl | (simp only [List.length_drop, List.length_take]; rfl)) ?_; (with_reducible refine (prolepsislaw06_known.calls  false _ A102.out).mono ?_); rintro e w139 ⟨rfl, hb⟩; refine ⟨_, rfl, ?_⟩; have n0_ := Aside0.mk (Kd.R_below (by (with_reducible repeat (first | apply Kd.R_alloc | apply Kd.R_drewN | apply Kd.R_drew)); exact HO_0.out) hb); have n1_ := Aside0.mk (Kd.R_below (by (with_reducible repeat (first | apply Kd.R_alloc | apply Kd.R_drewN | apply Kd.R_drew)); exact HO236.out) hb); have n2_ := Aside0.mk (Kd.R_below (by (with_reducible repeat (first | apply Kd.R_alloc | apply Kd.R_drewN | apply Kd.R_drew)); exact HO239.out) hb); have n3_ := Aside0.mk (blk_below (g := gb214) (o := .cells #[.int .i32 a1_0, .int .i32 a1_1, .int .i32 a1_2, .int .u8 a1_3, .int .u8 a1_4, .int .u8 a1_5, .int .u8 a1_6] 26 (0, 0)) (by (with_reducible repeat (first | refine blk_drewN ?_ _ | refine blk_drew ?_ | refine blk_alloc ?_ _)); exact BK214.out) hb); have n4_ := Aside0.mk (blk_below (g := gb215) (o := .cells #[.int .i32 a2_0, .int .i32 a2_1, .int .i32 a2_2, .int .u8 a2_3, .int .u8 a2_4, .int .u8 a2_5, .int .u8 a2_6] 26 (0, 0)) (by (with_reducible repeat (first | refine blk_drewN ?_ _ | refine blk_drew ?_ | refine blk_alloc ?_ _)); exact BK215.out) hb); have n5_ := Aside0.mk (blk_below (g := gb216) (o := .cells #[.int .u8 a5_0, .int .u8 a5_1, .int .u8 a5_2] 24 (0, 0)) (by (with_reducible repeat (first | refine blk_drewN ?_ _ | refine blk_drew ?_ | refine blk_alloc ?_ _)); exact BK216.out) hb); have n6_ := Aside0.mk (below_step (by repeat (first | (with_reducible first | exact HB.out | apply below_alloc | apply pw_below_drewN | apply below_drew1 | refine below_set ?_ GE214.out | refine below_set ?_ GE215.out | refine below_set ?_ GE216.out) | exact HB.out)) hb); clear HO_0; clear HO236; clear HO239; clear BK214; clear BK215; clear BK216; clear HB; have HO_0 := n0_; have HO236 := n1_; have HO239 := n2_; have BK214 := n3_; have BK215 := n4_; have BK216 := n5_; have HB := n6_; clear n0_ n1_ n2_ n3_ n4_ n5_ n6_; (try clear hb); (try clear hb2); (try clear hk); (try clear hi)))
            go_ret
            exact ⟨by first | rfl | (simp [errW_none, errW_some] <;> rfl) | (simp [*, errW_none, errW_some] <;> rfl), by repeat (first | (with_reducible first | exact HB.out | apply below_alloc | apply pw_below_drewN | apply below_drew1 | refine below_set ?_ GE214.out | refine below_set ?_ GE215.out | refine below_set ?_ GE216.out) | exact HB.out)⟩

end Go.Proofs.Ytblcmcdifgclcaa.PLineTwice
