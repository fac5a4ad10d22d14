/- LineMakes: what its proof leads to. No condition. -/
import Derived.Test.YtblcmcdifgclcaaPLineMakesx0qLineMakes
import Derived.Test.YtblcmcdifgclcaaPLineMakesx4qLineMakes
import Derived.Test.YtblcmcdifgclcaaPLineMakesx6qLineMakes
import Derived.Test.YtblcmcdifgclcaaPLineMakesx7qLineMakes
import Derived.Test.YtblcmcdifgclcaaShortqLineMakes
namespace Go.Proofs.Ytblcmcdifgclcaa.PLineMakes
open Go.RowKit Go.Proofs.YtblcmcdifgclcaaW.PrintWords Go.Proofs.YtblcmcdifgclcaaW.PrintLast Go.Proofs.YtblcmcdifgclcaaW.PrintMore
attribute [local go_sem] isSome_setCell max2_int min2_int max_two min_two
set_option linter.unusedVariables false
set_option linter.unusedSimpArgs false

mutual
def prolepsisref06_Put.j0 : Nat → List (S32) → Int → Bool → Int → Int → Int → Int → Int → Int → Int → Option ((List (S32)) × Bool)
  | 0, _, _, _, _, _, _, _, _, _, _ => none
  | k + 1, x0, x1, x39, x269000, x269001, x269002, x269003, x269004, x269005, x269006 => if x39 = true then (some (x0, false)) else (prolepsisref06_Put.l0 k x0 x1 ([] : List (S32)) 0 x269000 x269001 x269002 x269003 x269004 x269005 x269006)
def prolepsisref06_Put.l0 : Nat → List (S32) → Int → List (S32) → Int → Int → Int → Int → Int → Int → Int → Int → Option ((List (S32)) × Bool)
  | 0, _, _, _, _, _, _, _, _, _, _, _ => none
  | k + 1, x0, x1, x8, x9, x269000, x269001, x269002, x269003, x269004, x269005, x269006 => if x9 < (x0.length : Int) then (if x9 = x1 then (if x8.length < 4398046511104 then (prolepsisref06_Put.l0 k x0 x1 (x8 ++ [(⟨x269000, (⟨x269001, x269002⟩ : S29), x269003, (⟨x269004, x269005, x269006⟩ : S30)⟩ : S32)]) (wrap64 (x9 + 1)) x269000 x269001 x269002 x269003 x269004 x269005 x269006) else (none)) else (if x9 = (wrap64 (x1 + 1)) then (if x269003 = 2 then ((prolepsisref05_Rest.f x269000 x269001 x269002 x269003 x269004 x269005 x269006).bind fun bt276 => (if x8.length < 4398046511104 then (prolepsisref06_Put.l0 k x0 x1 (x8 ++ [(⟨bt276.1, (⟨bt276.2.1, bt276.2.2.1⟩ : S29), bt276.2.2.2.1, (⟨bt276.2.2.2.2.1, bt276.2.2.2.2.2.1, bt276.2.2.2.2.2.2⟩ : S30)⟩ : S32)]) (wrap64 (x9 + 1)) x269000 x269001 x269002 x269003 x269004 x269005 x269006) else (none))) else (if 0 ≤ x9 then (if x8.length < 4398046511104 then (prolepsisref06_Put.l0 k x0 x1 (x8 ++ [(⟨(rd_T32 x0 x9).f0, (⟨(rd_T32 x0 x9).f1.f0, (rd_T32 x0 x9).f1.f1⟩ : S29), (rd_T32 x0 x9).f2, (⟨(rd_T32 x0 x9).f3.f0, (rd_T32 x0 x9).f3.f1, (rd_T32 x0 x9).f3.f2⟩ : S30)⟩ : S32)]) (wrap64 (x9 + 1)) x269000 x269001 x269002 x269003 x269004 x269005 x269006) else (none)) else (none))) else (if 0 ≤ x9 then (if x8.length < 4398046511104 then (prolepsisref06_Put.l0 k x0 x1 (x8 ++ [(⟨(rd_T32 x0 x9).f0, (⟨(rd_T32 x0 x9).f1.f0, (rd_T32 x0 x9).f1.f1⟩ : S29), (rd_T32 x0 x9).f2, (⟨(rd_T32 x0 x9).f3.f0, (rd_T32 x0 x9).f3.f1, (rd_T32 x0 x9).f3.f2⟩ : S30)⟩ : S32)]) (wrap64 (x9 + 1)) x269000 x269001 x269002 x269003 x269004 x269005 x269006) else (none)) else (none)))) else ((prolepsisref06_Mend.f k x8).bind fun t270 => (some (t270, true)))
end
def prolepsisref06_Put.f (k : Nat) (l0 : List (S32)) (a1 : Int) (a2_0 : Int) (a2_1 : Int) (a2_2 : Int) (a2_3 : Int) (a2_4 : Int) (a2_5 : Int) (a2_6 : Int) : Option ((List (S32)) × Bool) := (prolepsisref05_Right.f k a2_0 a2_1 a2_2 a2_3 a2_4 a2_5 a2_6).bind fun t269 => (if t269 = true then (if a2_3 = 0 then (prolepsisref06_Put.j0 k l0 a1 true a2_0 a2_1 a2_2 a2_3 a2_4 a2_5 a2_6) else (if a1 < 0 then (prolepsisref06_Put.j0 k l0 a1 true a2_0 a2_1 a2_2 a2_3 a2_4 a2_5 a2_6) else (if a1 ≥ (l0.length : Int) then (prolepsisref06_Put.j0 k l0 a1 true a2_0 a2_1 a2_2 a2_3 a2_4 a2_5 a2_6) else (if a2_3 = 2 then (prolepsisref06_Put.j0 k l0 a1 (a1 == (wrap64 ((l0.length : Int) - 1))) a2_0 a2_1 a2_2 a2_3 a2_4 a2_5 a2_6) else (prolepsisref06_Put.j0 k l0 a1 false a2_0 a2_1 a2_2 a2_3 a2_4 a2_5 a2_6))))) else (prolepsisref06_Put.j0 k l0 a1 true a2_0 a2_1 a2_2 a2_3 a2_4 a2_5 a2_6))
set_option maxHeartbeats 8000000 in
set_option maxRecDepth 100000 in
theorem prolepsisref06_Put.calls (k : Nat) (P0_ : Nat → Prop) (A0 : Option Addr) (c0 : Nat) (l0 : List (S32)) (a1 : Int) (a2_0 : Int) (a2_1 : Int) (a2_2 : Int) (a2_3 : Int) (a2_4 : Int) (a2_5 : Int) (a2_6 : Int) (r1 : List (S32)) (r2 : Bool) (w : World) (hs0 : Kd.V k32 32 w w.heap.size (fun k_ => P0_ k_) (.slice A0 l0.length c0) l0) (h : prolepsisref06_Put.f k l0 a1 a2_0 a2_1 a2_2 a2_3 a2_4 a2_5 a2_6 = some (r1, r2)) :
    Calls Try.prog 43 #[.slice A0 l0.length c0, .int .i64 a1, .agg #[.int .i64 a2_0, .int .i64 a2_1, .int .i64 a2_2, .int .u8 a2_3, .int .u8 a2_4, .int .u8 a2_5, .int .u8 a2_6]] w fun e w' => ∃ v0_ : Value, e = .returned (.tuple #[v0_, .bool r2]) ∧ Kd.V k32 32 w' w.heap.size (fun k_ => (P0_ k_ ∨ w.heap.size ≤ k_)) v0_ r1 ∧ Below w.heap.size w w' := by
  have hu32 := Try.underlying32
  have HO0 := aS (show Kd.V k32 32 w w.heap.size (fun k_ => (P0_ k_ ∨ w.heap.size ≤ k_)) (.slice A0 l0.length c0) l0 from Kd.V_mono hs0 (fun k_ hk => .inl hk))
  have HB := aS (Below.refl w.heap.size w)
  have H : ((prolepsisref05_Right.f k a2_0 a2_1 a2_2 a2_3 a2_4 a2_5 a2_6).bind fun t269 => (if t269 = true then (if a2_3 = 0 then (prolepsisref06_Put.j0 k l0 a1 true a2_0 a2_1 a2_2 a2_3 a2_4 a2_5 a2_6) else (if a1 < 0 then (prolepsisref06_Put.j0 k l0 a1 true a2_0 a2_1 a2_2 a2_3 a2_4 a2_5 a2_6) else (if a1 ≥ (l0.length : Int) then (prolepsisref06_Put.j0 k l0 a1 true a2_0 a2_1 a2_2 a2_3 a2_4 a2_5 a2_6) else (if a2_3 = 2 then (prolepsisref06_Put.j0 k l0 a1 (a1 == (wrap64 ((l0.length : Int) - 1))) a2_0 a2_1 a2_2 a2_3 a2_4 a2_5 a2_6) else (prolepsisref06_Put.j0 k l0 a1 false a2_0 a2_1 a2_2 a2_3 a2_4 a2_5 a2_6))))) else (prolepsisref06_Put.j0 k l0 a1 true a2_0 a2_1 a2_2 a2_3 a2_4 a2_5 a2_6))) = some (r1, r2) := h
  clear h
  have HC4 := Aside0.mk H
  clear H
  go_enter Try.func43, Try.ntmps43
  go_upto_region 1 with (first | ((with_reducible refine gate_dst (N := 5) rfl ?_); (try (refine gate_guard (by rfl) ?_; dsimp only)); refine box_event ?hg (N := 5) ?hd (cs := #[.int .i64 a2_0, .int .i64 a2_1, .int .i64 a2_2, .int .u8 a2_3, .int .u8 a2_4, .int .u8 a2_5, .int .u8 a2_6]) (t := 32) ?hr ?_; (case hd => rfl); (case hg => rfl); (case hr => first | (go_simp; done) | (go_simp; rfl)); intro gb268 hg w5 hbox hb; have n0_ := aS (Kd.V_below (Kd.V_elderB (by (with_reducible repeat (first | apply Kd.V_alloc | apply Kd.V_drewN | apply Kd.V_drew)); exact HO0.out) gb268 (Nat.le_of_eq hg.symm)) hb); have n1_ := aS (below_step (by repeat (first | (with_reducible first | exact HB.out | apply lA | apply lN | apply lD) | exact HB.out)) hb); have n2_ := aS (hbox); have n3_ := aS ((by rw [hg]; exact (below_size (by repeat (first | (with_reducible first | exact HB.out | apply lA | apply lN | apply lD) | exact HB.out))) : w.heap.size ≤ gb268)); have n4_ := aS ((by rw [hg]; exact (below_size (by repeat (first | (with_reducible first | exact HB.out | apply lA | apply lN | apply lD) | exact HB.out))) : w.heap.size ≤ gb268)); clear HO0; clear HB; have HO0 := n0_; have HB := n1_; have BK268 := n2_; have GW268 := n3_; have GE268 := n4_; clear n0_ n1_ n2_ n3_ n4_; clear hb hbox hg))
  (try simp only [Act.put, List.setIfInBounds_toArray, List.set_cons_zero, List.set_cons_succ])
  go_cut [39] (fun v39 wc => ∃ (kq : Nat) (x39_3 : Bool), v39 = .bool x39_3 ∧ Aside0 (prolepsisref06_Put.j0 kq l0 a1 x39_3 a2_0 a2_1 a2_2 a2_3 a2_4 a2_5 a2_6 = some (r1, r2)) ∧ Aside0 (kq ≤ k) ∧ Aside0 (Kd.V k32 32 wc w.heap.size (fun k_ => (P0_ k_ ∨ w.heap.size ≤ k_) ∧ k_ ≠ gb268) (.slice A0 l0.length c0) l0) ∧ Aside0 (wc.heap[gb268]? = some (.cells #[.int .i64 a2_0, .int .i64 a2_1, .int .i64 a2_2, .int .u8 a2_3, .int .u8 a2_4, .int .u8 a2_5, .int .u8 a2_6] 32 (0, 0))) ∧ Aside0 (Below w.heap.size w wc))
  case first =>
    have H := HC4.out
    clear HC4
    replace H := Option.bind_eq_some_iff.mp H
    obtain ⟨t269, A60, H⟩ := H
    try dsimp only at H
    have A6 := Aside0.mk A60
    clear A60
    by_cases c7 : t269 = true
    · subst c7
      have H1 : (if a2_3 = 0 then (prolepsisref06_Put.j0 k l0 a1 true a2_0 a2_1 a2_2 a2_3 a2_4 a2_5 a2_6) else (if a1 < 0 then (prolepsisref06_Put.j0 k l0 a1 true a2_0 a2_1 a2_2 a2_3 a2_4 a2_5 a2_6) else (if a1 ≥ (l0.length : Int) then (prolepsisref06_Put.j0 k l0 a1 true a2_0 a2_1 a2_2 a2_3 a2_4 a2_5 a2_6) else (if a2_3 = 2 then (prolepsisref06_Put.j0 k l0 a1 (a1 == (wrap64 ((l0.length : Int) - 1))) a2_0 a2_1 a2_2 a2_3 a2_4 a2_5 a2_6) else (prolepsisref06_Put.j0 k l0 a1 false a2_0 a2_1 a2_2 a2_3 a2_4 a2_5 a2_6))))) = some (r1, r2) := by rw [if_pos rfl] at H; exact H
      clear H
      have H := H1
      clear H1
      by_cases c8 : a2_3 = 0
      · rw [if_pos c8] at H
        have c8b0 : (a2_3 == 0) = true := beq_iff_eq.mpr c8
        have c8b1 : (a2_3 != 0) = false := bne_eq_false_iff_eq.mpr c8
        clear c8
        (first | rw [c8b0] | (simp only [i64_w, i32_w]; rw [c8b0]) | skip)
        have H' := Aside0.mk H
        clear H
        obtain ⟨hcz9_0, hcz9_1, hcz9_2, hcz9_3, hcz9_4, hcz9_5, hcz9_6, hfz9_0, hfz9_1, hfz9_2, hfz9_3, hfz9_4, hfz9_5, hfz9_6⟩ := cel7 BK268.out
        go_wp2_with (first | ((with_reducible refine gate_callee (f := 27) rfl ?_); refine goesL_ (some 11) rfl rfl Try.func27 (by kernel_rfl) rfl #[.agg #[.int .i64 a2_0, .int .i64 a2_1, .int .i64 a2_2, .int .u8 a2_3, .int .u8 a2_4, .int .u8 a2_5, .int .u8 a2_6]] rfl (by (try simp only [List.map_toArray, List.map_cons, List.map_nil]); first | done | rfl | (simp only [List.length_drop, List.length_take]; rfl)) ?_; (with_reducible refine (prolepsisref05_Right.calls k a2_0 a2_1 a2_2 a2_3 a2_4 a2_5 a2_6 true _ A6.out).mono ?_); rintro e w10 ⟨rfl, hb⟩; refine ⟨_, rfl, ?_⟩; have n0_ := aS (Kd.V_below (by (with_reducible repeat (first | apply Kd.V_alloc | apply Kd.V_drewN | apply Kd.V_drew)); exact HO0.out) hb); have n1_ := aS (blk_below (g := gb268) (o := .cells #[.int .i64 a2_0, .int .i64 a2_1, .int .i64 a2_2, .int .u8 a2_3, .int .u8 a2_4, .int .u8 a2_5, .int .u8 a2_6] 32 (0, 0)) (by (with_reducible repeat (first | apply bN | apply bD | apply bA)); exact BK268.out) hb); have n2_ := aS (below_step (by repeat (first | (with_reducible first | exact HB.out | apply lA | apply lN | apply lD | refine below_set ?_ GE268.out) | exact HB.out)) hb); clear HO0; clear BK268; clear HB; have HO0 := n0_; have BK268 := n1_; have HB := n2_; clear n0_ n1_ n2_; (try clear hb); (try clear hb2); (try clear hk); (try clear hi); obtain ⟨hcz11_0, hcz11_1, hcz11_2, hcz11_3, hcz11_4, hcz11_5, hcz11_6, hfz11_0, hfz11_1, hfz11_2, hfz11_3, hfz11_4, hfz11_5, hfz11_6⟩ := cel7 BK268.out))
        go_meet
        case rel => exact ⟨_, (true), (by first | rfl | (simp; done) | (simp [*]; done)), H', ⟨by first | omega | exact Nat.le_refl _⟩, ⟨by (with_reducible repeat (first | apply Kd.V_alloc | apply Kd.V_drewN | apply Kd.V_drew)); exact HO0.out⟩, ⟨by (with_reducible repeat (first | apply bN | apply bD | apply bA)); exact BK268.out⟩, ⟨by repeat (first | (with_reducible first | exact HB.out | apply lA | apply lN | apply lD | refine below_set ?_ GE268.out) | exact HB.out)⟩⟩
      · rw [if_neg c8] at H
        have c8b0 : (a2_3 == 0) = false := beq_eq_false_iff_ne.mpr c8
        have c8b1 : (a2_3 != 0) = true := bne_iff_ne.mpr c8
        (first | rw [c8b0] | (simp only [i64_w, i32_w]; rw [c8b0]) | skip)
        by_cases c12 : a1 < 0
        · rw [if_pos c12] at H
          have c12b0 : decide (a1 < 0) = true := decide_eq_true c12
          clear c12
          have H' := Aside0.mk H
          clear H
          obtain ⟨hcz13_0, hcz13_1, hcz13_2, hcz13_3, hcz13_4, hcz13_5, hcz13_6, hfz13_0, hfz13_1, hfz13_2, hfz13_3, hfz13_4, hfz13_5, hfz13_6⟩ := cel7 BK268.out
          go_wp2_with (first | ((with_reducible refine gate_callee (f := 27) rfl ?_); refine goesL_ (some 11) rfl rfl Try.func27 (by kernel_rfl) rfl #[.agg #[.int .i64 a2_0, .int .i64 a2_1, .int .i64 a2_2, .int .u8 a2_3, .int .u8 a2_4, .int .u8 a2_5, .int .u8 a2_6]] rfl (by (try simp only [List.map_toArray, List.map_cons, List.map_nil]); first | done | rfl | (simp only [List.length_drop, List.length_take]; rfl)) ?_; (with_reducible refine (prolepsisref05_Right.calls k a2_0 a2_1 a2_2 a2_3 a2_4 a2_5 a2_6 true _ A6.out).mono ?_); rintro e w14 ⟨rfl, hb⟩; refine ⟨_, rfl, ?_⟩; have n0_ := aS (Kd.V_below (by (with_reducible repeat (first | apply Kd.V_alloc | apply Kd.V_drewN | apply Kd.V_drew)); exact HO0.out) hb); have n1_ := aS (blk_below (g := gb268) (o := .cells #[.int .i64 a2_0, .int .i64 a2_1, .int .i64 a2_2, .int .u8 a2_3, .int .u8 a2_4, .int .u8 a2_5, .int .u8 a2_6] 32 (0, 0)) (by (with_reducible repeat (first | apply bN | apply bD | apply bA)); exact BK268.out) hb); have n2_ := aS (below_step (by repeat (first | (with_reducible first | exact HB.out | apply lA | apply lN | apply lD | refine below_set ?_ GE268.out) | exact HB.out)) hb); clear HO0; clear BK268; clear HB; have HO0 := n0_; have BK268 := n1_; have HB := n2_; clear n0_ n1_ n2_; (try clear hb); (try clear hb2); (try clear hk); (try clear hi); obtain ⟨hcz15_0, hcz15_1, hcz15_2, hcz15_3, hcz15_4, hcz15_5, hcz15_6, hfz15_0, hfz15_1, hfz15_2, hfz15_3, hfz15_4, hfz15_5, hfz15_6⟩ := cel7 BK268.out))
          go_meet
          case rel => exact ⟨_, (true), (by first | rfl | (simp; done) | (simp [*]; done)), H', ⟨by first | omega | exact Nat.le_refl _⟩, ⟨by (with_reducible repeat (first | apply Kd.V_alloc | apply Kd.V_drewN | apply Kd.V_drew)); exact HO0.out⟩, ⟨by (with_reducible repeat (first | apply bN | apply bD | apply bA)); exact BK268.out⟩, ⟨by repeat (first | (with_reducible first | exact HB.out | apply lA | apply lN | apply lD | refine below_set ?_ GE268.out) | exact HB.out)⟩⟩
        · rw [if_neg c12] at H
          have c12b0 : decide (a1 < 0) = false := decide_eq_false c12
          clear c12
          by_cases c16 : a1 ≥ (l0.length : Int)
          · rw [if_pos c16] at H
            have c16b0 : decide ((l0.length : Int) ≤ a1) = true := decide_eq_true c16
            clear c16
            have H' := Aside0.mk H
            clear H
            obtain ⟨hcz17_0, hcz17_1, hcz17_2, hcz17_3, hcz17_4, hcz17_5, hcz17_6, hfz17_0, hfz17_1, hfz17_2, hfz17_3, hfz17_4, hfz17_5, hfz17_6⟩ := cel7 BK268.out
            go_wp2_with (first | ((with_reducible refine gate_callee (f := 27) rfl ?_); refine goesL_ (some 11) rfl rfl Try.func27 (by kernel_rfl) rfl #[.agg #[.int .i64 a2_0, .int .i64 a2_1, .int .i64 a2_2, .int .u8 a2_3, .int .u8 a2_4, .int .u8 a2_5, .int .u8 a2_6]] rfl (by (try simp only [List.map_toArray, List.map_cons, List.map_nil]); first | done | rfl | (simp only [List.length_drop, List.length_take]; rfl)) ?_; (with_reducible refine (prolepsisref05_Right.calls k a2_0 a2_1 a2_2 a2_3 a2_4 a2_5 a2_6 true _ A6.out).mono ?_); rintro e w18 ⟨rfl, hb⟩; refine ⟨_, rfl, ?_⟩; have n0_ := aS (Kd.V_below (by (with_reducible repeat (first | apply Kd.V_alloc | apply Kd.V_drewN | apply Kd.V_drew)); exact HO0.out) hb); have n1_ := aS (blk_below (g := gb268) (o := .cells #[.int .i64 a2_0, .int .i64 a2_1, .int .i64 a2_2, .int .u8 a2_3, .int .u8 a2_4, .int .u8 a2_5, .int .u8 a2_6] 32 (0, 0)) (by (with_reducible repeat (first | apply bN | apply bD | apply bA)); exact BK268.out) hb); have n2_ := aS (below_step (by repeat (first | (with_reducible first | exact HB.out | apply lA | apply lN | apply lD | refine below_set ?_ GE268.out) | exact HB.out)) hb); clear HO0; clear BK268; clear HB; have HO0 := n0_; have BK268 := n1_; have HB := n2_; clear n0_ n1_ n2_; (try clear hb); (try clear hb2); (try clear hk); (try clear hi); obtain ⟨hcz19_0, hcz19_1, hcz19_2, hcz19_3, hcz19_4, hcz19_5, hcz19_6, hfz19_0, hfz19_1, hfz19_2, hfz19_3, hfz19_4, hfz19_5, hfz19_6⟩ := cel7 BK268.out))
            go_meet
            case rel => exact ⟨_, (true), (by first | rfl | (simp; done) | (simp [*]; done)), H', ⟨by first | omega | exact Nat.le_refl _⟩, ⟨by (with_reducible repeat (first | apply Kd.V_alloc | apply Kd.V_drewN | apply Kd.V_drew)); exact HO0.out⟩, ⟨by (with_reducible repeat (first | apply bN | apply bD | apply bA)); exact BK268.out⟩, ⟨by repeat (first | (with_reducible first | exact HB.out | apply lA | apply lN | apply lD | refine below_set ?_ GE268.out) | exact HB.out)⟩⟩
          · rw [if_neg c16] at H
            have c16b0 : decide ((l0.length : Int) ≤ a1) = false := decide_eq_false c16
            clear c16
            by_cases c20 : a2_3 = 2
            · rw [if_pos c20] at H
              have c20b0 : (a2_3 == 2) = true := beq_iff_eq.mpr c20
              have c20b1 : (a2_3 != 2) = false := bne_eq_false_iff_eq.mpr c20
              clear c20
              have H' := Aside0.mk H
              clear H
              obtain ⟨hcz21_0, hcz21_1, hcz21_2, hcz21_3, hcz21_4, hcz21_5, hcz21_6, hfz21_0, hfz21_1, hfz21_2, hfz21_3, hfz21_4, hfz21_5, hfz21_6⟩ := cel7 BK268.out
              go_wp2_with (first | ((with_reducible refine gate_callee (f := 27) rfl ?_); refine goesL_ (some 11) rfl rfl Try.func27 (by kernel_rfl) rfl #[.agg #[.int .i64 a2_0, .int .i64 a2_1, .int .i64 a2_2, .int .u8 a2_3, .int .u8 a2_4, .int .u8 a2_5, .int .u8 a2_6]] rfl (by (try simp only [List.map_toArray, List.map_cons, List.map_nil]); first | done | rfl | (simp only [List.length_drop, List.length_take]; rfl)) ?_; (with_reducible refine (prolepsisref05_Right.calls k a2_0 a2_1 a2_2 a2_3 a2_4 a2_5 a2_6 true _ A6.out).mono ?_); rintro e w22 ⟨rfl, hb⟩; refine ⟨_, rfl, ?_⟩; have n0_ := aS (Kd.V_below (by (with_reducible repeat (first | apply Kd.V_alloc | apply Kd.V_drewN | apply Kd.V_drew)); exact HO0.out) hb); have n1_ := aS (blk_below (g := gb268) (o := .cells #[.int .i64 a2_0, .int .i64 a2_1, .int .i64 a2_2, .int .u8 a2_3, .int .u8 a2_4, .int .u8 a2_5, .int .u8 a2_6] 32 (0, 0)) (by (with_reducible repeat (first | apply bN | apply bD | apply bA)); exact BK268.out) hb); have n2_ := aS (below_step (by repeat (first | (with_reducible first | exact HB.out | apply lA | apply lN | apply lD | refine below_set ?_ GE268.out) | exact HB.out)) hb); clear HO0; clear BK268; clear HB; have HO0 := n0_; have BK268 := n1_; have HB := n2_; clear n0_ n1_ n2_; (try clear hb); (try clear hb2); (try clear hk); (try clear hi); obtain ⟨hcz23_0, hcz23_1, hcz23_2, hcz23_3, hcz23_4, hcz23_5, hcz23_6, hfz23_0, hfz23_1, hfz23_2, hfz23_3, hfz23_4, hfz23_5, hfz23_6⟩ := cel7 BK268.out))
              go_meet
              case rel => exact ⟨_, ((a1 == (wrap64 ((l0.length : Int) - 1)))), (by first | rfl | (simp; done) | (simp [*]; done)), H', ⟨by first | omega | exact Nat.le_refl _⟩, ⟨by (with_reducible repeat (first | apply Kd.V_alloc | apply Kd.V_drewN | apply Kd.V_drew)); exact HO0.out⟩, ⟨by (with_reducible repeat (first | apply bN | apply bD | apply bA)); exact BK268.out⟩, ⟨by repeat (first | (with_reducible first | exact HB.out | apply lA | apply lN | apply lD | refine below_set ?_ GE268.out) | exact HB.out)⟩⟩
            · rw [if_neg c20] at H
              have c20b0 : (a2_3 == 2) = false := beq_eq_false_iff_ne.mpr c20
              have c20b1 : (a2_3 != 2) = true := bne_iff_ne.mpr c20
              have H' := Aside0.mk H
              clear H
              obtain ⟨hcz24_0, hcz24_1, hcz24_2, hcz24_3, hcz24_4, hcz24_5, hcz24_6, hfz24_0, hfz24_1, hfz24_2, hfz24_3, hfz24_4, hfz24_5, hfz24_6⟩ := cel7 BK268.out
              go_wp2_with (first | ((with_reducible refine gate_callee (f := 27) rfl ?_); refine goesL_ (some 11) rfl rfl Try.func27 (by kernel_rfl) rfl #[.agg #[.int .i64 a2_0, .int .i64 a2_1, .int .i64 a2_2, .int .u8 a2_3, .int .u8 a2_4, .int .u8 a2_5, .int .u8 a2_6]] rfl (by (try simp only [List.map_toArray, List.map_cons, List.map_nil]); first | done | rfl | (simp only [List.length_drop, List.length_take]; rfl)) ?_; (with_reducible refine (prolepsisref05_Right.calls k a2_0 a2_1 a2_2 a2_3 a2_4 a2_5 a2_6 true _ A6.out).mono ?_); rintro e w25 ⟨rfl, hb⟩; refine ⟨_, rfl, ?_⟩; have n0_ := aS (Kd.V_below (by (with_reducible repeat (first | apply Kd.V_alloc | apply Kd.V_drewN | apply Kd.V_drew)); exact HO0.out) hb); have n1_ := aS (blk_below (g := gb268) (o := .cells #[.int .i64 a2_0, .int .i64 a2_1, .int .i64 a2_2, .int .u8 a2_3, .int .u8 a2_4, .int .u8 a2_5, .int .u8 a2_6] 32 (0, 0)) (by (with_reducible repeat (first | apply bN | apply bD | apply bA)); exact BK268.out) hb); have n2_ := aS (below_step (by repeat (first | (with_reducible first | exact HB.out | apply lA | apply lN | apply lD | refine below_set ?_ GE268.out) | exact HB.out)) hb); clear HO0; clear BK268; clear HB; have HO0 := n0_; have BK268 := n1_; have HB := n2_; clear n0_ n1_ n2_; (try clear hb); (try clear hb2); (try clear hk); (try clear hi); obtain ⟨hcz26_0, hcz26_1, hcz26_2, hcz26_3, hcz26_4, hcz26_5, hcz26_6, hfz26_0, hfz26_1, hfz26_2, hfz26_3, hfz26_4, hfz26_5, hfz26_6⟩ := cel7 BK268.out))
              go_meet
              case rel => exact ⟨_, (false), (by first | rfl | (simp; done) | (simp [*]; done)), H', ⟨by first | omega | exact Nat.le_refl _⟩, ⟨by (with_reducible repeat (first | apply Kd.V_alloc | apply Kd.V_drewN | apply Kd.V_drew)); exact HO0.out⟩, ⟨by (with_reducible repeat (first | apply bN | apply bD | apply bA)); exact BK268.out⟩, ⟨by repeat (first | (with_reducible first | exact HB.out | apply lA | apply lN | apply lD | refine below_set ?_ GE268.out) | exact HB.out)⟩⟩
    · replace c7 := Bool.eq_false_iff.mpr c7
      subst c7
      have H1 : (prolepsisref06_Put.j0 k l0 a1 true a2_0 a2_1 a2_2 a2_3 a2_4 a2_5 a2_6) = some (r1, r2) := by rw [if_neg (show ¬ (false = true) by decide)] at H; exact H
      clear H
      have H := H1
      clear H1
      have H' := Aside0.mk H
      clear H
      obtain ⟨hcz27_0, hcz27_1, hcz27_2, hcz27_3, hcz27_4, hcz27_5, hcz27_6, hfz27_0, hfz27_1, hfz27_2, hfz27_3, hfz27_4, hfz27_5, hfz27_6⟩ := cel7 BK268.out
      go_wp2_with (first | ((with_reducible refine gate_callee (f := 27) rfl ?_); refine goesL_ (some 11) rfl rfl Try.func27 (by kernel_rfl) rfl #[.agg #[.int .i64 a2_0, .int .i64 a2_1, .int .i64 a2_2, .int .u8 a2_3, .int .u8 a2_4, .int .u8 a2_5, .int .u8 a2_6]] rfl (by (try simp only [List.map_toArray, List.map_cons, List.map_nil]); first | done | rfl | (simp only [List.length_drop, List.length_take]; rfl)) ?_; (with_reducible refine (prolepsisref05_Right.calls k a2_0 a2_1 a2_2 a2_3 a2_4 a2_5 a2_6 false _ A6.out).mono ?_); rintro e w28 ⟨rfl, hb⟩; refine ⟨_, rfl, ?_⟩; have n0_ := aS (Kd.V_below (by (with_reducible repeat (first | apply Kd.V_alloc | apply Kd.V_drewN | apply Kd.V_drew)); exact HO0.out) hb); have n1_ := aS (blk_below (g := gb268) (o := .cells #[.int .i64 a2_0, .int .i64 a2_1, .int .i64 a2_2, .int .u8 a2_3, .int .u8 a2_4, .int .u8 a2_5, .int .u8 a2_6] 32 (0, 0)) (by (with_reducible repeat (first | apply bN | apply bD | apply bA)); exact BK268.out) hb); have n2_ := aS (below_step (by repeat (first | (with_reducible first | exact HB.out | apply lA | apply lN | apply lD | refine below_set ?_ GE268.out) | exact HB.out)) hb); clear HO0; clear BK268; clear HB; have HO0 := n0_; have BK268 := n1_; have HB := n2_; clear n0_ n1_ n2_; (try clear hb); (try clear hb2); (try clear hk); (try clear hi)))
      go_meet
      case rel => exact ⟨_, (true), (by first | rfl | (simp; done) | (simp [*]; done)), H', ⟨by first | omega | exact Nat.le_refl _⟩, ⟨by (with_reducible repeat (first | apply Kd.V_alloc | apply Kd.V_drewN | apply Kd.V_drew)); exact HO0.out⟩, ⟨by (with_reducible repeat (first | apply bN | apply bD | apply bA)); exact BK268.out⟩, ⟨by repeat (first | (with_reducible first | exact HB.out | apply lA | apply lN | apply lD | refine below_set ?_ GE268.out) | exact HB.out)⟩⟩
  case rest =>
    clear HC4
    try clear c1
    try clear c2
    try clear p2
    try clear c4
    try clear p6
    try clear c7
    try clear c8
    try clear c8b0
    try clear c8b1
    try clear c12
    try clear c12b0
    try clear c16
    try clear c16b0
    try clear c20
    try clear c20b0
    try clear c20b1
    try clear c27
    try clear hcz11_0
    try clear hcz11_1
    try clear hcz11_2
    try clear hcz11_3
    try clear hcz11_4
    try clear hcz11_5
    try clear hcz11_6
    try clear hcz13_0
    try clear hcz13_1
    try clear hcz13_2
    try clear hcz13_3
    try clear hcz13_4
    try clear hcz13_5
    try clear hcz13_6
    try clear hcz15_0
    try clear hcz15_1
    try clear hcz15_2
    try clear hcz15_3
    try clear hcz15_4
    try clear hcz15_5
    try clear hcz15_6
    try clear hcz17_0
    try clear hcz17_1
    try clear hcz17_2
    try clear hcz17_3
    try clear hcz17_4
    try clear hcz17_5
    try clear hcz17_6
    try clear hcz19_0
    try clear hcz19_1
    try clear hcz19_2
    try clear hcz19_3
    try clear hcz19_4
    try clear hcz19_5
    try clear hcz19_6
    try clear hcz21_0
    try clear hcz21_1
    try clear hcz21_2
    try clear hcz21_3
    try clear hcz21_4
    try clear hcz21_5
    try clear hcz21_6
    try clear hcz23_0
    try clear hcz23_1
    try clear hcz23_2
    try clear hcz23_3
    try clear hcz23_4
    try clear hcz23_5
    try clear hcz23_6
    try clear hcz24_0
    try clear hcz24_1
    try clear hcz24_2
    try clear hcz24_3
    try clear hcz24_4
    try clear hcz24_5
    try clear hcz24_6
    try clear hcz26_0
    try clear hcz26_1
    try clear hcz26_2
    try clear hcz26_3
    try clear hcz26_4
    try clear hcz26_5
    try clear hcz26_6
    try clear hcz27_0
    try clear hcz27_1
    try clear hcz27_2
    try clear hcz27_3
    try clear hcz27_4
    try clear hcz27_5
    try clear hcz27_6
    try clear hcz9_0
    try clear hcz9_1
    try clear hcz9_2
    try clear hcz9_3
    try clear hcz9_4
    try clear hcz9_5
    try clear hcz9_6
    try clear hfz11_0
    try clear hfz11_1
    try clear hfz11_2
    try clear hfz11_3
    try clear hfz11_4
    try clear hfz11_5
    try clear hfz11_6
    try clear hfz13_0
    try clear hfz13_1
    try clear hfz13_2
    try clear hfz13_3
    try clear hfz13_4
    try clear hfz13_5
    try clear hfz13_6
    try clear hfz15_0
    try clear hfz15_1
    try clear hfz15_2
    try clear hfz15_3
    try clear hfz15_4
    try clear hfz15_5
    try clear hfz15_6
    try clear hfz17_0
    try clear hfz17_1
    try clear hfz17_2
    try clear hfz17_3
    try clear hfz17_4
    try clear hfz17_5
    try clear hfz17_6
    try clear hfz19_0
    try clear hfz19_1
    try clear hfz19_2
    try clear hfz19_3
    try clear hfz19_4
    try clear hfz19_5
    try clear hfz19_6
    try clear hfz21_0
    try clear hfz21_1
    try clear hfz21_2
    try clear hfz21_3
    try clear hfz21_4
    try clear hfz21_5
    try clear hfz21_6
    try clear hfz23_0
    try clear hfz23_1
    try clear hfz23_2
    try clear hfz23_3
    try clear hfz23_4
    try clear hfz23_5
    try clear hfz23_6
    try clear hfz24_0
    try clear hfz24_1
    try clear hfz24_2
    try clear hfz24_3
    try clear hfz24_4
    try clear hfz24_5
    try clear hfz24_6
    try clear hfz26_0
    try clear hfz26_1
    try clear hfz26_2
    try clear hfz26_3
    try clear hfz26_4
    try clear hfz26_5
    try clear hfz26_6
    try clear hfz27_0
    try clear hfz27_1
    try clear hfz27_2
    try clear hfz27_3
    try clear hfz27_4
    try clear hfz27_5
    try clear hfz27_6
    try clear hfz9_0
    try clear hfz9_1
    try clear hfz9_2
    try clear hfz9_3
    try clear hfz9_4
    try clear hfz9_5
    try clear hfz9_6
    obtain ⟨kq, x39_3, rfl, HA, HJ3, HO_0, BK268, HB⟩ := hcut
    cases kq with
    | zero => exact absurd HA.out (by simp [prolepsisref06_Put.j0])
    | succ kj3 =>
      have H := HA.out
      clear HA
      simp only [prolepsisref06_Put.j0] at H
      by_cases c29 : x39_3 = true
      · subst c29
        have H1 : (some (l0, false)) = some (r1, r2) := by rw [if_pos rfl] at H; exact H
        clear H
        have H := H1
        clear H1
        simp only [Option.some.injEq, Prod.mk.injEq] at H
        obtain ⟨rfl, rfl⟩ := H
        go_wp2
        go_ret2
        exact ⟨_, by first | rfl | (simp <;> rfl) | (simp [*] <;> rfl), by (with_reducible repeat (first | apply Kd.V_alloc | apply Kd.V_drewN | apply Kd.V_drew)); exact Kd.V_mono HO_0.out (fun _ hk => hk.1), by repeat (first | (with_reducible first | exact HB.out | apply lA | apply lN | apply lD | refine below_set ?_ GE268.out) | exact HB.out)⟩
      · replace c29 := Bool.eq_false_iff.mpr c29
        subst c29
        have H1 : (prolepsisref06_Put.l0 kj3 l0 a1 ([] : List (S32)) 0 a2_0 a2_1 a2_2 a2_3 a2_4 a2_5 a2_6) = some (r1, r2) := by rw [if_neg (show ¬ (false = true) by decide)] at H; exact H
        clear H
        have H := H1
        clear H1
        have H' := Aside0.mk H
        clear H
        go_wp2
        go_loopg [8, 9] kj3 (fun kq v8 v9 w' => ∃ (x8_2 : List (S32)) (x9_2 : Int), v9 = .int .i64 x9_2 ∧ Aside0 (prolepsisref06_Put.l0 kq l0 a1 x8_2 x9_2 a2_0 a2_1 a2_2 a2_3 a2_4 a2_5 a2_6 = some (r1, r2)) ∧ Aside0 (kq ≤ kj3) ∧ Aside0 (Kd.V k32 32 w' w.heap.size (fun k_ => (P0_ k_ ∨ w.heap.size ≤ k_) ∧ some k_ ≠ (v8 : Value).ownBlock ∧ k_ ≠ gb268) (.slice A0 l0.length c0) l0) ∧ Aside0 (Kd.R k32 32 w' w.heap.size (fun k_ => (w.heap.size ≤ k_) ∧ k_ ≠ gb268) v8 x8_2) ∧ Aside0 (w'.heap[gb268]? = some (.cells #[.int .i64 a2_0, .int .i64 a2_1, .int .i64 a2_2, .int .u8 a2_3, .int .u8 a2_4, .int .u8 a2_5, .int .u8 a2_6] 32 (0, 0))) ∧ Aside0 (Below w.heap.size w w'))
        case atStart => exact ⟨(([] : List (S32))), (0), (by first | rfl | (simp; done) | (simp [*]; done)), H', ⟨Nat.le_refl _⟩, ⟨by (with_reducible repeat (first | apply Kd.V_alloc | apply Kd.V_drewN | apply Kd.V_drew)); exact Kd.V_mono HO_0.out (fun _ hk => ⟨hk.1, ⟨(by simp [Value.ownBlock]), hk.2⟩⟩)⟩, ⟨by first | exact Kd.R_nil _ _ _ _ _ | exact Kd.N_nil _ _ _ _ _ | exact Kd.V_nil _ _ _ _ _ | exact Kd.Q_nil _ _ _ _ _ | exact Kd.S_nil _ _ _ _ _⟩, ⟨by (with_reducible repeat (first | apply bN | apply bD | apply bA)); exact BK268.out⟩, ⟨by repeat (first | (with_reducible first | exact HB.out | apply lA | apply lN | apply lD | refine below_set ?_ GE268.out) | exact HB.out)⟩⟩
        case round =>
          clear H'
          try clear c1
          try clear c2
          try clear p2
          try clear c4
          try clear p6
          try clear c7
          try clear c8
          try clear c8b0
          try clear c8b1
          try clear c12
          try clear c12b0
          try clear c16
          try clear c16b0
          try clear c20
          try clear c20b0
          try clear c20b1
          try clear c27
          try clear c29
          try clear hcz11_0
          try clear hcz11_1
          try clear hcz11_2
          try clear hcz11_3
          try clear hcz11_4
          try clear hcz11_5
          try clear hcz11_6
          try clear hcz13_0
          try clear hcz13_1
          try clear hcz13_2
          try clear hcz13_3
          try clear hcz13_4
          try clear hcz13_5
          try clear hcz13_6
          try clear hcz15_0
          try clear hcz15_1
          try clear hcz15_2
          try clear hcz15_3
          try clear hcz15_4
          try clear hcz15_5
          try clear hcz15_6
          try clear hcz17_0
          try clear hcz17_1
          try clear hcz17_2
          try clear hcz17_3
          try clear hcz17_4
          try clear hcz17_5
          try clear hcz17_6
          try clear hcz19_0
          try clear hcz19_1
          try clear hcz19_2
          try clear hcz19_3
          try clear hcz19_4
          try clear hcz19_5
          try clear hcz19_6
          try clear hcz21_0
          try clear hcz21_1
          try clear hcz21_2
          try clear hcz21_3
          try clear hcz21_4
          try clear hcz21_5
          try clear hcz21_6
          try clear hcz23_0
          try clear hcz23_1
          try clear hcz23_2
          try clear hcz23_3
          try clear hcz23_4
          try clear hcz23_5
          try clear hcz23_6
          try clear hcz24_0
          try clear hcz24_1
          try clear hcz24_2
          try clear hcz24_3
          try clear hcz24_4
          try clear hcz24_5
          try clear hcz24_6
          try clear hcz26_0
          try clear hcz26_1
          try clear hcz26_2
          try clear hcz26_3
          try clear hcz26_4
          try clear hcz26_5
          try clear hcz26_6
          try clear hcz27_0
          try clear hcz27_1
          try clear hcz27_2
          try clear hcz27_3
          try clear hcz27_4
          try clear hcz27_5
          try clear hcz27_6
          try clear hcz9_0
          try clear hcz9_1
          try clear hcz9_2
          try clear hcz9_3
          try clear hcz9_4
          try clear hcz9_5
          try clear hcz9_6
          try clear hfz11_0
          try clear hfz11_1
          try clear hfz11_2
          try clear hfz11_3
          try clear hfz11_4
          try clear hfz11_5
          try clear hfz11_6
          try clear hfz13_0
          try clear hfz13_1
          try clear hfz13_2
          try clear hfz13_3
          try clear hfz13_4
          try clear hfz13_5
          try clear hfz13_6
          try clear hfz15_0
          try clear hfz15_1
          try clear hfz15_2
          try clear hfz15_3
          try clear hfz15_4
          try clear hfz15_5
          try clear hfz15_6
          try clear hfz17_0
          try clear hfz17_1
          try clear hfz17_2
          try clear hfz17_3
          try clear hfz17_4
          try clear hfz17_5
          try clear hfz17_6
          try clear hfz19_0
          try clear hfz19_1
          try clear hfz19_2
          try clear hfz19_3
          try clear hfz19_4
          try clear hfz19_5
          try clear hfz19_6
          try clear hfz21_0
          try clear hfz21_1
          try clear hfz21_2
          try clear hfz21_3
          try clear hfz21_4
          try clear hfz21_5
          try clear hfz21_6
          try clear hfz23_0
          try clear hfz23_1
          try clear hfz23_2
          try clear hfz23_3
          try clear hfz23_4
          try clear hfz23_5
          try clear hfz23_6
          try clear hfz24_0
          try clear hfz24_1
          try clear hfz24_2
          try clear hfz24_3
          try clear hfz24_4
          try clear hfz24_5
          try clear hfz24_6
          try clear hfz26_0
          try clear hfz26_1
          try clear hfz26_2
          try clear hfz26_3
          try clear hfz26_4
          try clear hfz26_5
          try clear hfz26_6
          try clear hfz27_0
          try clear hfz27_1
          try clear hfz27_2
          try clear hfz27_3
          try clear hfz27_4
          try clear hfz27_5
          try clear hfz27_6
          try clear hfz9_0
          try clear hfz9_1
          try clear hfz9_2
          try clear hfz9_3
          try clear hfz9_4
          try clear hfz9_5
          try clear hfz9_6
          try clear p2
          try clear p6
          obtain ⟨x8_2, x9_2, rfl, HA, HK2, HO_0, HO_8, BK268, HB⟩ := hrel
          cases gk with
          | zero => exact absurd HA.out (by simp [prolepsisref06_Put.l0])
          | succ k2 =>
            have H := HA.out
            clear HA
            simp only [prolepsisref06_Put.l0] at H
            by_cases c30 : x9_2 < (l0.length : Int)
            · rw [if_pos c30] at H
              have c30b0 : decide (x9_2 < (l0.length : Int)) = true := decide_eq_true c30
              clear c30
              by_cases c31 : x9_2 = a1
              · rw [if_pos c31] at H
                have c31b0 : (x9_2 == a1) = true := beq_iff_eq.mpr c31
                have c31b1 : (x9_2 != a1) = false := bne_eq_false_iff_eq.mpr c31
                clear c31
                by_cases c32 : x8_2.length < 4398046511104
                · rw [if_pos c32] at H
                  have LMc32 := Aside0.mk c32
                  clear c32
                  obtain ⟨y273, hy273⟩ : ∃ y_ : List (S32), y_ = (x8_2 ++ [(⟨a2_0, (⟨a2_1, a2_2⟩ : S29), a2_3, (⟨a2_4, a2_5, a2_6⟩ : S30)⟩ : S32)]) := ⟨_, rfl⟩
                  replace H : (prolepsisref06_Put.l0 k2 l0 a1 y273 (wrap64 (x9_2 + 1)) a2_0 a2_1 a2_2 a2_3 a2_4 a2_5 a2_6) = some (r1, r2) := by first | (rw [hy273]; with_reducible exact H) | (have H2_ := (Option.bind_some _ _).symm.trans H; rw [hy273]; with_reducible exact H2_) | (have H2_ := (Option.bind_some _ _).symm.trans H; with_reducible exact H2_) | with_reducible exact H | (rw [hy273]; exact H) | exact H
                  have Ny273 := Aside0.mk hy273
                  clear hy273
                  have H' := Aside0.mk H
                  clear H
                  obtain ⟨hcz33_0, hcz33_1, hcz33_2, hcz33_3, hcz33_4, hcz33_5, hcz33_6, hfz33_0, hfz33_1, hfz33_2, hfz33_3, hfz33_4, hfz33_5, hfz33_6⟩ := cel7 BK268.out
                  go_wp2_with (first | ((with_reducible refine gate_builtin (b := .append) (xs := #[.tmp 58, .tmp 60]) rfl ?_); (try (refine gate_guard (by rfl) ?_; dsimp only)); at_builtin; refine Kd.R_append k32 (w0 := w) w.heap.size rfl (.tmp 58) (.tmp 60) 67 32 (.agg #[(.int .i64 0), (.int .i64 0), (.int .i64 0), (.int .u8 0), (.int .u8 0), (.int .u8 0), (.int .u8 0)]) 32 rfl Try.underlying67 info32 rfl (by decide) (by omega) u8 x8_2 (⟨a2_0, (⟨a2_1, a2_2⟩ : S29), a2_3, (⟨a2_4, a2_5, a2_6⟩ : S30)⟩ : S32) [.int .i64 a2_0, .int .i64 a2_1, .int .i64 a2_2, .int .u8 a2_3, .int .u8 a2_4, .int .u8 a2_5, .int .u8 a2_6] (fun k_ => (w.heap.size ≤ k_) ∧ k_ ≠ gb268) (fun _ => False) rfl rfl ?aP (fun _ hk => hk.elim) ?aF ?aO ?aB ?aS ?aL ?_; (case aP => exact k32_mkM _ _ _ (⟨a2_0, (⟨a2_1, a2_2⟩ : S29), a2_3, (⟨a2_4, a2_5, a2_6⟩ : S30)⟩ : S32)); (case aB => exact (by repeat (first | (with_reducible first | exact HB.out | apply lA | apply lN | apply lD | refine below_set ?_ GE268.out) | exact HB.out))); (case aF => exact (fun k_ hk => ⟨(Nat.le_trans (below_size (by repeat (first | (with_reducible first | exact HB.out | apply lA | apply lN | apply lD | refine below_set ?_ GE268.out) | exact HB.out))) hk), Kd.freshB (g := gb268) (o := .cells #[.int .i64 a2_0, .int .i64 a2_1, .int .i64 a2_2, .int .u8 a2_3, .int .u8 a2_4, .int .u8 a2_5, .int .u8 a2_6] 32 (0, 0)) (by (with_reducible repeat (first | apply bN | apply bD | apply bA)); exact BK268.out) k_ hk⟩)); (case aO => exact (by (with_reducible repeat (first | apply rA | apply rN | apply rD)); exact HO_8.out)); (case aS => exact (below_size (by repeat (first | (with_reducible first | exact HB.out | apply lA | apply lN | apply lD | refine below_set ?_ GE268.out) | exact HB.out)))); (case aL => have := LMc32.out; omega); intro v274 w34 ho hb hg hat; rw [← Ny273.out] at ho; have n0_ := aS (Kd.V_afterv (ok := (fun k_ => (P0_ k_ ∨ w.heap.size ≤ k_) ∧ k_ ≠ gb268)) (by (with_reducible repeat (first | apply Kd.V_alloc | apply Kd.V_drewN | apply Kd.V_drew)); exact Kd.V_mono HO_0.out (fun _ hk => ⟨⟨hk.1, hk.2.2⟩, hk.2.1⟩)) hg hat); have n1_ := aS (blk_grown (g := gb268) (o := .cells #[.int .i64 a2_0, .int .i64 a2_1, .int .i64 a2_2, .int .u8 a2_3, .int .u8 a2_4, .int .u8 a2_5, .int .u8 a2_6] 32 (0, 0)) (by (with_reducible repeat (first | apply bN | apply bD | apply bA)); exact BK268.out) hg (Kd.R_away HO_8.out (fun _ hk => hk.2))); have n2_ := aS (hb); have n3_ := aS (ho); clear HO_0; clear BK268; clear HB; clear HO_8; have HO_0 := n0_; have BK268 := n1_; have HB := n2_; have HO275 := n3_; clear n0_ n1_ n2_ n3_; clear ho hb hg hat))
                  go_roundg k2
                  case measure => have := HJ3.out; have := HK2.out; omega
                  case rel => exact ⟨(y273), (wrap64 (x9_2 + 1)), (by first | rfl | (simp; done) | (simp [*]; done)), H', ⟨by have := HJ3.out; have := HK2.out; omega⟩, ⟨by (with_reducible repeat (first | apply Kd.V_alloc | apply Kd.V_drewN | apply Kd.V_drew)); exact Kd.V_mono HO_0.out (fun _ hk => ⟨hk.1.1, ⟨hk.2, hk.1.2⟩⟩)⟩, ⟨by (with_reducible repeat (first | apply rA | apply rN | apply rD)); exact HO275.out⟩, ⟨by (with_reducible repeat (first | apply bN | apply bD | apply bA)); exact BK268.out⟩, ⟨by repeat (first | (with_reducible first | exact HB.out | apply lA | apply lN | apply lD | refine below_set ?_ GE268.out) | exact HB.out)⟩⟩
                · rw [if_neg c32] at H
                  exact absurd H (by simp)
              · rw [if_neg c31] at H
                have c31b0 : (x9_2 == a1) = false := beq_eq_false_iff_ne.mpr c31
                have c31b1 : (x9_2 != a1) = true := bne_iff_ne.mpr c31
                by_cases c35 : x9_2 = (wrap64 (a1 + 1))
                · rw [if_pos c35] at H
                  have c35b0 : (x9_2 == (wrap64 (a1 + 1))) = true := beq_iff_eq.mpr c35
                  have c35b1 : (x9_2 != (wrap64 (a1 + 1))) = false := bne_eq_false_iff_eq.mpr c35
                  clear c35
                  by_cases c36 : a2_3 = 2
                  · rw [if_pos c36] at H
                    have c36b0 : (a2_3 == 2) = true := beq_iff_eq.mpr c36
                    have c36b1 : (a2_3 != 2) = false := bne_eq_false_iff_eq.mpr c36
                    clear c36
                    replace H := Option.bind_eq_some_iff.mp H
                    obtain ⟨⟨t276, t277, t278, t279, t280, t281, t282⟩, A370, H⟩ := H
                    try dsimp only at H
                    have A37 := Aside0.mk A370
                    clear A370
                    by_cases c38 : x8_2.length < 4398046511104
                    · rw [if_pos c38] at H
                      have LMc38 := Aside0.mk c38
                      clear c38
                      obtain ⟨y283, hy283⟩ : ∃ y_ : List (S32), y_ = (x8_2 ++ [(⟨t276, (⟨t277, t278⟩ : S29), t279, (⟨t280, t281, t282⟩ : S30)⟩ : S32)]) := ⟨_, rfl⟩
                      replace H : (prolepsisref06_Put.l0 k2 l0 a1 y283 (wrap64 (x9_2 + 1)) a2_0 a2_1 a2_2 a2_3 a2_4 a2_5 a2_6) = some (r1, r2) := by first | (rw [hy283]; with_reducible exact H) | (have H2_ := (Option.bind_some _ _).symm.trans H; rw [hy283]; with_reducible exact H2_) | (have H2_ := (Option.bind_some _ _).symm.trans H; with_reducible exact H2_) | with_reducible exact H | (rw [hy283]; exact H) | exact H
                      have Ny283 := Aside0.mk hy283
                      clear hy283
                      have H' := Aside0.mk H
                      clear H
                      obtain ⟨hcz39_0, hcz39_1, hcz39_2, hcz39_3, hcz39_4, hcz39_5, hcz39_6, hfz39_0, hfz39_1, hfz39_2, hfz39_3, hfz39_4, hfz39_5, hfz39_6⟩ := cel7 BK268.out
                      go_wp2_with (first | ((with_reducible refine gate_callee (f := 24) rfl ?_); refine goesL_ (some 74) rfl rfl Try.func24 (by kernel_rfl) rfl #[.agg #[.int .i64 a2_0, .int .i64 a2_1, .int .i64 a2_2, .int .u8 a2_3, .int .u8 a2_4, .int .u8 a2_5, .int .u8 a2_6]] rfl (by (try simp only [List.map_toArray, List.map_cons, List.map_nil]); first | done | rfl | (simp only [List.length_drop, List.length_take]; rfl)) ?_; (with_reducible refine (prolepsisref05_Rest.calls a2_0 a2_1 a2_2 a2_3 a2_4 a2_5 a2_6 t276 t277 t278 t279 t280 t281 t282 _ A37.out).mono ?_); rintro e w40 ⟨rfl, hb⟩; refine ⟨_, rfl, ?_⟩; have n0_ := aS (Kd.V_below (by (with_reducible repeat (first | apply Kd.V_alloc | apply Kd.V_drewN | apply Kd.V_drew)); exact HO_0.out) hb); have n1_ := aS (Kd.R_below (by (with_reducible repeat (first | apply rA | apply rN | apply rD)); exact HO_8.out) hb); have n2_ := aS (blk_below (g := gb268) (o := .cells #[.int .i64 a2_0, .int .i64 a2_1, .int .i64 a2_2, .int .u8 a2_3, .int .u8 a2_4, .int .u8 a2_5, .int .u8 a2_6] 32 (0, 0)) (by (with_reducible repeat (first | apply bN | apply bD | apply bA)); exact BK268.out) hb); have n3_ := aS (below_step (by repeat (first | (with_reducible first | exact HB.out | apply lA | apply lN | apply lD | refine below_set ?_ GE268.out) | exact HB.out)) hb); clear HO_0; clear HO_8; clear BK268; clear HB; have HO_0 := n0_; have HO_8 := n1_; have BK268 := n2_; have HB := n3_; clear n0_ n1_ n2_ n3_; (try clear hb); (try clear hb2); (try clear hk); (try clear hi)) | ((with_reducible refine gate_builtin (b := .append) (xs := #[.tmp 72, .tmp 75]) rfl ?_); (try (refine gate_guard (by rfl) ?_; dsimp only)); at_builtin; refine Kd.R_append k32 (w0 := w) w.heap.size rfl (.tmp 72) (.tmp 75) 67 32 (.agg #[(.int .i64 0), (.int .i64 0), (.int .i64 0), (.int .u8 0), (.int .u8 0), (.int .u8 0), (.int .u8 0)]) 32 rfl Try.underlying67 info32 rfl (by decide) (by omega) u8 x8_2 (⟨t276, (⟨t277, t278⟩ : S29), t279, (⟨t280, t281, t282⟩ : S30)⟩ : S32) [.int .i64 t276, .int .i64 t277, .int .i64 t278, .int .u8 t279, .int .u8 t280, .int .u8 t281, .int .u8 t282] (fun k_ => (w.heap.size ≤ k_) ∧ k_ ≠ gb268) (fun _ => False) rfl rfl ?aP (fun _ hk => hk.elim) ?aF ?aO ?aB ?aS ?aL ?_; (case aP => exact k32_mkM _ _ _ (⟨t276, (⟨t277, t278⟩ : S29), t279, (⟨t280, t281, t282⟩ : S30)⟩ : S32)); (case aB => exact (by repeat (first | (with_reducible first | exact HB.out | apply lA | apply lN | apply lD | refine below_set ?_ GE268.out) | exact HB.out))); (case aF => exact (fun k_ hk => ⟨(Nat.le_trans (below_size (by repeat (first | (with_reducible first | exact HB.out | apply lA | apply lN | apply lD | refine below_set ?_ GE268.out) | exact HB.out))) hk), Kd.freshB (g := gb268) (o := .cells #[.int .i64 a2_0, .int .i64 a2_1, .int .i64 a2_2, .int .u8 a2_3, .int .u8 a2_4, .int .u8 a2_5, .int .u8 a2_6] 32 (0, 0)) (by (with_reducible repeat (first | apply bN | apply bD | apply bA)); exact BK268.out) k_ hk⟩)); (case aO => exact (by (with_reducible repeat (first | apply rA | apply rN | apply rD)); exact HO_8.out)); (case aS => exact (below_size (by repeat (first | (with_reducible first | exact HB.out | apply lA | apply lN | apply lD | refine below_set ?_ GE268.out) | exact HB.out)))); (case aL => have := LMc38.out; omega); intro v284 w41 ho hb hg hat; rw [← Ny283.out] at ho; have n0_ := aS (Kd.V_afterv (ok := (fun k_ => (P0_ k_ ∨ w.heap.size ≤ k_) ∧ k_ ≠ gb268)) (by (with_reducible repeat (first | apply Kd.V_alloc | apply Kd.V_drewN | apply Kd.V_drew)); exact Kd.V_mono HO_0.out (fun _ hk => ⟨⟨hk.1, hk.2.2⟩, hk.2.1⟩)) hg hat); have n1_ := aS (blk_grown (g := gb268) (o := .cells #[.int .i64 a2_0, .int .i64 a2_1, .int .i64 a2_2, .int .u8 a2_3, .int .u8 a2_4, .int .u8 a2_5, .int .u8 a2_6] 32 (0, 0)) (by (with_reducible repeat (first | apply bN | apply bD | apply bA)); exact BK268.out) hg (Kd.R_away HO_8.out (fun _ hk => hk.2))); have n2_ := aS (hb); have n3_ := aS (ho); clear HO_0; clear BK268; clear HB; clear HO_8; have HO_0 := n0_; have BK268 := n1_; have HB := n2_; have HO285 := n3_; clear n0_ n1_ n2_ n3_; clear ho hb hg hat))
                      go_roundg k2
                      case measure => have := HJ3.out; have := HK2.out; omega
                      case rel => exact ⟨(y283), (wrap64 (x9_2 + 1)), (by first | rfl | (simp; done) | (simp [*]; done)), H', ⟨by have := HJ3.out; have := HK2.out; omega⟩, ⟨by (with_reducible repeat (first | apply Kd.V_alloc | apply Kd.V_drewN | apply Kd.V_drew)); exact Kd.V_mono HO_0.out (fun _ hk => ⟨hk.1.1, ⟨hk.2, hk.1.2⟩⟩)⟩, ⟨by (with_reducible repeat (first | apply rA | apply rN | apply rD)); exact HO285.out⟩, ⟨by (with_reducible repeat (first | apply bN | apply bD | apply bA)); exact BK268.out⟩, ⟨by repeat (first | (with_reducible first | exact HB.out | apply lA | apply lN | apply lD | refine below_set ?_ GE268.out) | exact HB.out)⟩⟩
                    · rw [if_neg c38] at H
                      exact absurd H (by simp)
                  · rw [if_neg c36] at H
                    have c36b0 : (a2_3 == 2) = false := beq_eq_false_iff_ne.mpr c36
                    have c36b1 : (a2_3 != 2) = true := bne_iff_ne.mpr c36
                    by_cases c42 : 0 ≤ x9_2
                    · rw [if_pos c42] at H
                      have c42b0 : decide (0 ≤ x9_2) = true := decide_eq_true c42
                      clear c42
                      by_cases c43 : x8_2.length < 4398046511104
                      · rw [if_pos c43] at H
                        have LMc43 := Aside0.mk c43
                        clear c43
                        obtain ⟨y287, hy287⟩ : ∃ y_ : List (S32), y_ = (x8_2 ++ [(⟨(rd_T32 l0 x9_2).f0, (⟨(rd_T32 l0 x9_2).f1.f0, (rd_T32 l0 x9_2).f1.f1⟩ : S29), (rd_T32 l0 x9_2).f2, (⟨(rd_T32 l0 x9_2).f3.f0, (rd_T32 l0 x9_2).f3.f1, (rd_T32 l0 x9_2).f3.f2⟩ : S30)⟩ : S32)]) := ⟨_, rfl⟩
                        replace H : (prolepsisref06_Put.l0 k2 l0 a1 y287 (wrap64 (x9_2 + 1)) a2_0 a2_1 a2_2 a2_3 a2_4 a2_5 a2_6) = some (r1, r2) := by first | (rw [hy287]; with_reducible exact H) | (have H2_ := (Option.bind_some _ _).symm.trans H; rw [hy287]; with_reducible exact H2_) | (have H2_ := (Option.bind_some _ _).symm.trans H; with_reducible exact H2_) | with_reducible exact H | (rw [hy287]; exact H) | exact H
                        have Ny287 := Aside0.mk hy287
                        clear hy287
                        have H' := Aside0.mk H
                        clear H
                        obtain ⟨hcz44_0, hcz44_1, hcz44_2, hcz44_3, hcz44_4, hcz44_5, hcz44_6, hfz44_0, hfz44_1, hfz44_2, hfz44_3, hfz44_4, hfz44_5, hfz44_6⟩ := cel7 BK268.out
                        have p286 : 0 ≤ (x9_2 : Int) := of_decide_eq_true (by first | (with_reducible assumption) | assumption)
                        have q286 : x9_2 < (l0.length : Int) := of_decide_eq_true (by first | (with_reducible assumption) | assumption)
                        obtain ⟨ad286, e286, hx286_0, hx286_1, hx286_2, hx286_3, hx286_4, hx286_5, hx286_6⟩ := at_T32 (Kd.V_reads' HO_0.out).2.2 x9_2 p286 q286
                        cases e286
                        replace p286 := eq_true p286
                        replace q286 := eq_true q286
                        go_wp2_with (first | ((with_reducible refine gate_builtin (b := .append) (xs := #[.tmp 47, .tmp 52]) rfl ?_); (try (refine gate_guard (by rfl) ?_; dsimp only)); at_builtin; refine Kd.R_append k32 (w0 := w) w.heap.size rfl (.tmp 47) (.tmp 52) 67 32 (.agg #[(.int .i64 0), (.int .i64 0), (.int .i64 0), (.int .u8 0), (.int .u8 0), (.int .u8 0), (.int .u8 0)]) 32 rfl Try.underlying67 info32 rfl (by decide) (by omega) u8 x8_2 (⟨(rd_T32 l0 x9_2).f0, (⟨(rd_T32 l0 x9_2).f1.f0, (rd_T32 l0 x9_2).f1.f1⟩ : S29), (rd_T32 l0 x9_2).f2, (⟨(rd_T32 l0 x9_2).f3.f0, (rd_T32 l0 x9_2).f3.f1, (rd_T32 l0 x9_2).f3.f2⟩ : S30)⟩ : S32) [.int .i64 ((rd_T32 l0 x9_2).f0), .int .i64 ((rd_T32 l0 x9_2).f1.f0), .int .i64 ((rd_T32 l0 x9_2).f1.f1), .int .u8 ((rd_T32 l0 x9_2).f2), .int .u8 ((rd_T32 l0 x9_2).f3.f0), .int .u8 ((rd_T32 l0 x9_2).f3.f1), .int .u8 ((rd_T32 l0 x9_2).f3.f2)] (fun k_ => (w.heap.size ≤ k_) ∧ k_ ≠ gb268) (fun _ => False) rfl rfl ?aP (fun _ hk => hk.elim) ?aF ?aO ?aB ?aS ?aL ?_; (case aP => exact k32_mkM _ _ _ (⟨(rd_T32 l0 x9_2).f0, (⟨(rd_T32 l0 x9_2).f1.f0, (rd_T32 l0 x9_2).f1.f1⟩ : S29), (rd_T32 l0 x9_2).f2, (⟨(rd_T32 l0 x9_2).f3.f0, (rd_T32 l0 x9_2).f3.f1, (rd_T32 l0 x9_2).f3.f2⟩ : S30)⟩ : S32)); (case aB => exact (by repeat (first | (with_reducible first | exact HB.out | apply lA | apply lN | apply lD | refine below_set ?_ GE268.out) | exact HB.out))); (case aF => exact (fun k_ hk => ⟨(Nat.le_trans (below_size (by repeat (first | (with_reducible first | exact HB.out | apply lA | apply lN | apply lD | refine below_set ?_ GE268.out) | exact HB.out))) hk), Kd.freshB (g := gb268) (o := .cells #[.int .i64 a2_0, .int .i64 a2_1, .int .i64 a2_2, .int .u8 a2_3, .int .u8 a2_4, .int .u8 a2_5, .int .u8 a2_6] 32 (0, 0)) (by (with_reducible repeat (first | apply bN | apply bD | apply bA)); exact BK268.out) k_ hk⟩)); (case aO => exact (by (with_reducible repeat (first | apply rA | apply rN | apply rD)); exact HO_8.out)); (case aS => exact (below_size (by repeat (first | (with_reducible first | exact HB.out | apply lA | apply lN | apply lD | refine below_set ?_ GE268.out) | exact HB.out)))); (case aL => have := LMc43.out; omega); intro v288 w45 ho hb hg hat; rw [← Ny287.out] at ho; have n0_ := aS (Kd.V_afterv (ok := (fun k_ => (P0_ k_ ∨ w.heap.size ≤ k_) ∧ k_ ≠ gb268)) (by (with_reducible repeat (first | apply Kd.V_alloc | apply Kd.V_drewN | apply Kd.V_drew)); exact Kd.V_mono HO_0.out (fun _ hk => ⟨⟨hk.1, hk.2.2⟩, hk.2.1⟩)) hg hat); have n1_ := aS (blk_grown (g := gb268) (o := .cells #[.int .i64 a2_0, .int .i64 a2_1, .int .i64 a2_2, .int .u8 a2_3, .int .u8 a2_4, .int .u8 a2_5, .int .u8 a2_6] 32 (0, 0)) (by (with_reducible repeat (first | apply bN | apply bD | apply bA)); exact BK268.out) hg (Kd.R_away HO_8.out (fun _ hk => hk.2))); have n2_ := aS (hb); have n3_ := aS (ho); clear HO_0; clear BK268; clear HB; clear HO_8; have HO_0 := n0_; have BK268 := n1_; have HB := n2_; have HO289 := n3_; clear n0_ n1_ n2_ n3_; clear ho hb hg hat))
                        go_roundg k2
                        case measure => have := HJ3.out; have := HK2.out; omega
                        case rel => exact ⟨(y287), (wrap64 (x9_2 + 1)), (by first | rfl | (simp; done) | (simp [*]; done)), H', ⟨by have := HJ3.out; have := HK2.out; omega⟩, ⟨by (with_reducible repeat (first | apply Kd.V_alloc | apply Kd.V_drewN | apply Kd.V_drew)); exact Kd.V_mono HO_0.out (fun _ hk => ⟨hk.1.1, ⟨hk.2, hk.1.2⟩⟩)⟩, ⟨by (with_reducible repeat (first | apply rA | apply rN | apply rD)); exact HO289.out⟩, ⟨by (with_reducible repeat (first | apply bN | apply bD | apply bA)); exact BK268.out⟩, ⟨by repeat (first | (with_reducible first | exact HB.out | apply lA | apply lN | apply lD | refine below_set ?_ GE268.out) | exact HB.out)⟩⟩
                      · rw [if_neg c43] at H
                        exact absurd H (by simp)
                    · rw [if_neg c42] at H
                      exact absurd H (by simp)
                · rw [if_neg c35] at H
                  have c35b0 : (x9_2 == (wrap64 (a1 + 1))) = false := beq_eq_false_iff_ne.mpr c35
                  have c35b1 : (x9_2 != (wrap64 (a1 + 1))) = true := bne_iff_ne.mpr c35
                  by_cases c46 : 0 ≤ x9_2
                  · rw [if_pos c46] at H
                    have c46b0 : decide (0 ≤ x9_2) = true := decide_eq_true c46
                    clear c46
                    by_cases c47 : x8_2.length < 4398046511104
                    · rw [if_pos c47] at H
                      have LMc47 := Aside0.mk c47
                      clear c47
                      obtain ⟨y291, hy291⟩ : ∃ y_ : List (S32), y_ = (x8_2 ++ [(⟨(rd_T32 l0 x9_2).f0, (⟨(rd_T32 l0 x9_2).f1.f0, (rd_T32 l0 x9_2).f1.f1⟩ : S29), (rd_T32 l0 x9_2).f2, (⟨(rd_T32 l0 x9_2).f3.f0, (rd_T32 l0 x9_2).f3.f1, (rd_T32 l0 x9_2).f3.f2⟩ : S30)⟩ : S32)]) := ⟨_, rfl⟩
                      replace H : (prolepsisref06_Put.l0 k2 l0 a1 y291 (wrap64 (x9_2 + 1)) a2_0 a2_1 a2_2 a2_3 a2_4 a2_5 a2_6) = some (r1, r2) := by first | (rw [hy291]; with_reducible exact H) | (have H2_ := (Option.bind_some _ _).symm.trans H; rw [hy291]; with_reducible exact H2_) | (have H2_ := (Option.bind_some _ _).symm.trans H; with_reducible exact H2_) | with_reducible exact H | (rw [hy291]; exact H) | exact H
                      have Ny291 := Aside0.mk hy291
                      clear hy291
                      have H' := Aside0.mk H
                      clear H
                      have p290 : 0 ≤ (x9_2 : Int) := of_decide_eq_true (by first | (with_reducible assumption) | assumption)
                      have q290 : x9_2 < (l0.length : Int) := of_decide_eq_true (by first | (with_reducible assumption) | assumption)
                      obtain ⟨ad290, e290, hx290_0, hx290_1, hx290_2, hx290_3, hx290_4, hx290_5, hx290_6⟩ := at_T32 (Kd.V_reads' HO_0.out).2.2 x9_2 p290 q290
                      cases e290
                      replace p290 := eq_true p290
                      replace q290 := eq_true q290
                      go_wp2_with (first | ((with_reducible refine gate_builtin (b := .append) (xs := #[.tmp 47, .tmp 52]) rfl ?_); (try (refine gate_guard (by rfl) ?_; dsimp only)); at_builtin; refine Kd.R_append k32 (w0 := w) w.heap.size rfl (.tmp 47) (.tmp 52) 67 32 (.agg #[(.int .i64 0), (.int .i64 0), (.int .i64 0), (.int .u8 0), (.int .u8 0), (.int .u8 0), (.int .u8 0)]) 32 rfl Try.underlying67 info32 rfl (by decide) (by omega) u8 x8_2 (⟨(rd_T32 l0 x9_2).f0, (⟨(rd_T32 l0 x9_2).f1.f0, (rd_T32 l0 x9_2).f1.f1⟩ : S29), (rd_T32 l0 x9_2).f2, (⟨(rd_T32 l0 x9_2).f3.f0, (rd_T32 l0 x9_2).f3.f1, (rd_T32 l0 x9_2).f3.f2⟩ : S30)⟩ : S32) [.int .i64 ((rd_T32 l0 x9_2).f0), .int .i64 ((rd_T32 l0 x9_2).f1.f0), .int .i64 ((rd_T32 l0 x9_2).f1.f1), .int .u8 ((rd_T32 l0 x9_2).f2), .int .u8 ((rd_T32 l0 x9_2).f3.f0), .int .u8 ((rd_T32 l0 x9_2).f3.f1), .int .u8 ((rd_T32 l0 x9_2).f3.f2)] (fun k_ => (w.heap.size ≤ k_) ∧ k_ ≠ gb268) (fun _ => False) rfl rfl ?aP (fun _ hk => hk.elim) ?aF ?aO ?aB ?aS ?aL ?_; (case aP => exact k32_mkM _ _ _ (⟨(rd_T32 l0 x9_2).f0, (⟨(rd_T32 l0 x9_2).f1.f0, (rd_T32 l0 x9_2).f1.f1⟩ : S29), (rd_T32 l0 x9_2).f2, (⟨(rd_T32 l0 x9_2).f3.f0, (rd_T32 l0 x9_2).f3.f1, (rd_T32 l0 x9_2).f3.f2⟩ : S30)⟩ : S32)); (case aB => exact (by repeat (first | (with_reducible first | exact HB.out | apply lA | apply lN | apply lD | refine below_set ?_ GE268.out) | exact HB.out))); (case aF => exact (fun k_ hk => ⟨(Nat.le_trans (below_size (by repeat (first | (with_reducible first | exact HB.out | apply lA | apply lN | apply lD | refine below_set ?_ GE268.out) | exact HB.out))) hk), Kd.freshB (g := gb268) (o := .cells #[.int .i64 a2_0, .int .i64 a2_1, .int .i64 a2_2, .int .u8 a2_3, .int .u8 a2_4, .int .u8 a2_5, .int .u8 a2_6] 32 (0, 0)) (by (with_reducible repeat (first | apply bN | apply bD | apply bA)); exact BK268.out) k_ hk⟩)); (case aO => exact (by (with_reducible repeat (first | apply rA | apply rN | apply rD)); exact HO_8.out)); (case aS => exact (below_size (by repeat (first | (with_reducible first | exact HB.out | apply lA | apply lN | apply lD | refine below_set ?_ GE268.out) | exact HB.out)))); (case aL => have := LMc47.out; omega); intro v292 w48 ho hb hg hat; rw [← Ny291.out] at ho; have n0_ := aS (Kd.V_afterv (ok := (fun k_ => (P0_ k_ ∨ w.heap.size ≤ k_) ∧ k_ ≠ gb268)) (by (with_reducible repeat (first | apply Kd.V_alloc | apply Kd.V_drewN | apply Kd.V_drew)); exact Kd.V_mono HO_0.out (fun _ hk => ⟨⟨hk.1, hk.2.2⟩, hk.2.1⟩)) hg hat); have n1_ := aS (blk_grown (g := gb268) (o := .cells #[.int .i64 a2_0, .int .i64 a2_1, .int .i64 a2_2, .int .u8 a2_3, .int .u8 a2_4, .int .u8 a2_5, .int .u8 a2_6] 32 (0, 0)) (by (with_reducible repeat (first | apply bN | apply bD | apply bA)); exact BK268.out) hg (Kd.R_away HO_8.out (fun _ hk => hk.2))); have n2_ := aS (hb); have n3_ := aS (ho); clear HO_0; clear BK268; clear HB; clear HO_8; have HO_0 := n0_; have BK268 := n1_; have HB := n2_; have HO293 := n3_; clear n0_ n1_ n2_ n3_; clear ho hb hg hat))
                      go_roundg k2
                      case measure => have := HJ3.out; have := HK2.out; omega
                      case rel => exact ⟨(y291), (wrap64 (x9_2 + 1)), (by first | rfl | (simp; done) | (simp [*]; done)), H', ⟨by have := HJ3.out; have := HK2.out; omega⟩, ⟨by (with_reducible repeat (first | apply Kd.V_alloc | apply Kd.V_drewN | apply Kd.V_drew)); exact Kd.V_mono HO_0.out (fun _ hk => ⟨hk.1.1, ⟨hk.2, hk.1.2⟩⟩)⟩, ⟨by (with_reducible repeat (first | apply rA | apply rN | apply rD)); exact HO293.out⟩, ⟨by (with_reducible repeat (first | apply bN | apply bD | apply bA)); exact BK268.out⟩, ⟨by repeat (first | (with_reducible first | exact HB.out | apply lA | apply lN | apply lD | refine below_set ?_ GE268.out) | exact HB.out)⟩⟩
                    · rw [if_neg c47] at H
                      exact absurd H (by simp)
                  · rw [if_neg c46] at H
                    exact absurd H (by simp)
            · rw [if_neg c30] at H
              have c30b0 : decide (x9_2 < (l0.length : Int)) = false := decide_eq_false c30
              clear c30
              replace H := Option.bind_eq_some_iff.mp H
              obtain ⟨t270, A490, H⟩ := H
              try dsimp only at H
              have A49 := Aside0.mk A490
              clear A490
              simp only [Option.some.injEq, Prod.mk.injEq] at H
              obtain ⟨rfl, rfl⟩ := H
              obtain ⟨Ao50, co50, eo50⟩ := Kd.R_slice HO_8.out
              subst eo50
              go_wp2_with (first | ((with_reducible refine gate_callee (f := 50) rfl ?_); refine goesL_ (some 78) rfl rfl Try.func50 (by kernel_rfl) rfl #[.slice Ao50 x8_2.length co50] rfl (by (try simp only [List.map_toArray, List.map_cons, List.map_nil]); first | done | rfl | (simp only [List.length_drop, List.length_take]; rfl)) ?_; (with_reducible refine (prolepsisref06_Mend.calls k2 _ _ x8_2 t270 _ ?side1 ?side2 A49.out).mono ?_); (case side1 => repeat (first | exact (Kd.R_reads' HO_8.out).2.2 | (with_reducible refine Kd.C_alloc ?_ _) | (with_reducible refine Kd.C_drewN ?_ _) | (with_reducible refine Kd.C_drew ?_))); (case side2 => exact (Kd.R_reads' HO_8.out).2.1); rintro e w51 ⟨v271, rfl, ho0, hb⟩; refine ⟨_, rfl, ?_⟩; have n0_ := aS (Kd.V_elder' (by (with_reducible repeat (first | apply Kd.V_alloc | apply Kd.V_drewN | apply Kd.V_drew)); exact HO_0.out) (Kd.R_base ho0) hb); have n1_ := aS (Kd.R_elder' (by (with_reducible repeat (first | apply rA | apply rN | apply rD)); exact HO_8.out) (Kd.R_base ho0) hb); have n2_ := aS (Kd.R_lower (Kd.R_newB (Kd.R_new' (Kd.R_newM (M := fun k_ => (w.heap.size ≤ k_)) ho0 (below_size (by repeat (first | (with_reducible first | exact HB.out | apply lA | apply lN | apply lD | refine below_set ?_ GE268.out) | exact HB.out))) (fun k_ h_ => h_)) (Kd.R_lt (by (with_reducible repeat (first | apply rA | apply rN | apply rD)); exact HO_8.out))) (g := gb268) (o := .cells #[.int .i64 a2_0, .int .i64 a2_1, .int .i64 a2_2, .int .u8 a2_3, .int .u8 a2_4, .int .u8 a2_5, .int .u8 a2_6] 32 (0, 0)) (by (with_reducible repeat (first | apply bN | apply bD | apply bA)); exact BK268.out)) (below_size (by repeat (first | (with_reducible first | exact HB.out | apply lA | apply lN | apply lD | refine below_set ?_ GE268.out) | exact HB.out)))); have n3_ := aS (blk_below (g := gb268) (o := .cells #[.int .i64 a2_0, .int .i64 a2_1, .int .i64 a2_2, .int .u8 a2_3, .int .u8 a2_4, .int .u8 a2_5, .int .u8 a2_6] 32 (0, 0)) (by (with_reducible repeat (first | apply bN | apply bD | apply bA)); exact BK268.out) hb); have n4_ := aS (below_step (by repeat (first | (with_reducible first | exact HB.out | apply lA | apply lN | apply lD | refine below_set ?_ GE268.out) | exact HB.out)) hb); clear HO_0; clear HO_8; clear BK268; clear HB; have HO_0 := n0_; have HO_8 := n1_; have HO272 := n2_; have BK268 := n3_; have HB := n4_; clear n0_ n1_ n2_ n3_ n4_; (try clear hb); (try clear hb2); (try clear hk); (try clear hi); (try clear ho0)))
              go_ret2
              exact ⟨_, by first | rfl | (simp <;> rfl) | (simp [*] <;> rfl), Kd.V_mono (Kd.R_V (by (with_reducible repeat (first | apply rA | apply rN | apply rD)); exact Kd.R_mono HO272.out (fun _ hk => hk.1.1.1))) (fun k_ hk => by first | exact ⟨(.inr (hk.1)), hk.2⟩ | exact (.inr (hk))), by repeat (first | (with_reducible first | exact HB.out | apply lA | apply lN | apply lD | refine below_set ?_ GE268.out) | exact HB.out)⟩

end Go.Proofs.Ytblcmcdifgclcaa.PLineMakes
