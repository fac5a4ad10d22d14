/- LineMakes: what its proof leads to. No condition. -/
import Derived.Test.YtblcmcdifgclcaaPLineMakesx0qLineMakes
import Derived.Test.YtblcmcdifgclcaaShortqLineMakes
namespace Go.Proofs.Ytblcmcdifgclcaa.PLineMakes
open Go.RowKit Go.Proofs.YtblcmcdifgclcaaW.PrintWords Go.Proofs.YtblcmcdifgclcaaW.PrintLast Go.Proofs.YtblcmcdifgclcaaW.PrintMore
attribute [local go_sem] isSome_setCell max2_int min2_int max_two min_two
set_option linter.unusedVariables false
set_option linter.unusedSimpArgs false

def prolepsisref05_Blank.f (a0_0 : Int) (a0_1 : Int) (a0_2 : Int) : Option (Int × Int × Int × Int × Int × Int × Int) := some (32, 0, 0, 1, a0_0, a0_1, a0_2)
set_option maxHeartbeats 8000000 in
set_option maxRecDepth 100000 in
theorem prolepsisref05_Blank.calls (a0_0 : Int) (a0_1 : Int) (a0_2 : Int) (r1 : Int) (r2 : Int) (r3 : Int) (r4 : Int) (r5 : Int) (r6 : Int) (r7 : Int) (w : World) (h : prolepsisref05_Blank.f a0_0 a0_1 a0_2 = some (r1, r2, r3, r4, r5, r6, r7)) :
    Calls Try.prog 22 #[.agg #[.int .u8 a0_0, .int .u8 a0_1, .int .u8 a0_2]] w fun e w' => e = .returned (.agg #[.int .i64 r1, .int .i64 r2, .int .i64 r3, .int .u8 r4, .int .u8 r5, .int .u8 r6, .int .u8 r7]) ∧ Below w.heap.size w w' := by
  have hu30 := Try.underlying30
  have hu32 := Try.underlying32
  have HB := aS (Below.refl w.heap.size w)
  have H : (some (32, 0, 0, 1, a0_0, a0_1, a0_2)) = some (r1, r2, r3, r4, r5, r6, r7) := h
  clear h
  simp only [Option.some.injEq, Prod.mk.injEq] at H
  obtain ⟨rfl, rfl, rfl, rfl, rfl, rfl, rfl⟩ := H
  go_enter Try.func22, Try.ntmps22
  go_wp2_with (first | ((with_reducible refine gate_dst (N := 1) rfl ?_); refine box_event ?hg (N := 1) ?hd (cs := #[.int .u8 a0_0, .int .u8 a0_1, .int .u8 a0_2]) (t := 30) ?hr ?_; (case hd => rfl); (case hg => rfl); (case hr => first | (go_simp; done) | (go_simp; rfl)); intro gb246 hg w2 hbox hb; have n0_ := aS (below_step (by repeat (first | (with_reducible first | exact HB.out | apply lA | apply lN | apply lD) | exact HB.out)) hb); have n1_ := aS (hbox); have n2_ := aS ((by rw [hg]; exact (below_size (by repeat (first | (with_reducible first | exact HB.out | apply lA | apply lN | apply lD) | exact HB.out))) : w.heap.size ≤ gb246)); have n3_ := aS ((by rw [hg]; exact (below_size (by repeat (first | (with_reducible first | exact HB.out | apply lA | apply lN | apply lD) | exact HB.out))) : w.heap.size ≤ gb246)); clear HB; have HB := n0_; have BK246 := n1_; have GW246 := n2_; have GE246 := n3_; clear n0_ n1_ n2_ n3_; clear hb hbox hg) | ((with_reducible refine gate_dst (N := 2) rfl ?_); refine box_event ?hg (N := 2) ?hd (cs := #[.int .i64 0, .int .i64 0, .int .i64 0, .int .u8 0, .int .u8 0, .int .u8 0, .int .u8 0]) (t := 32) ?hr ?_; (case hd => rfl); (case hg => rfl); (case hr => first | (go_simp; done) | (go_simp; rfl)); intro gb247 hg w3 hbox hb; have n0_ := aS (blk_below (g := gb246) (o := .cells #[.int .u8 a0_0, .int .u8 a0_1, .int .u8 a0_2] 30 (0, 0)) (by (with_reducible repeat (first | apply bN | apply bD | apply bA)); exact BK246.out) hb); have n1_ := aS (below_step (by repeat (first | (with_reducible first | exact HB.out | apply lA | apply lN | apply lD | refine below_set ?_ GE246.out) | exact HB.out)) hb); have n2_ := aS (hbox); have n3_ := aS ((by rw [hg]; exact (below_size (by repeat (first | (with_reducible first | exact HB.out | apply lA | apply lN | apply lD | refine below_set ?_ GE246.out) | exact HB.out))) : w.heap.size ≤ gb247)); have n4_ := aS ((by rw [hg]; exact (below_size (by repeat (first | (with_reducible first | exact HB.out | apply lA | apply lN | apply lD | refine below_set ?_ GE246.out) | exact HB.out))) : w.heap.size ≤ gb247)); have n5_ := aS ((by rw [hg]; exact Nat.ne_of_lt (blk_lt (g := gb246) (o := .cells #[.int .u8 a0_0, .int .u8 a0_1, .int .u8 a0_2] 30 (0, 0)) (by (with_reducible repeat (first | apply bN | apply bD | apply bA)); exact BK246.out)) : gb246 ≠ gb247)); have n6_ := aS ((by rw [hg]; exact Nat.ne_of_gt (blk_lt (g := gb246) (o := .cells #[.int .u8 a0_0, .int .u8 a0_1, .int .u8 a0_2] 30 (0, 0)) (by (with_reducible repeat (first | apply bN | apply bD | apply bA)); exact BK246.out)) : gb247 ≠ gb246)); clear BK246; clear HB; have BK246 := n0_; have HB := n1_; have BK247 := n2_; have GW247 := n3_; have GE247 := n4_; have NB246_247 := n5_; have NB247_246 := n6_; clear n0_ n1_ n2_ n3_ n4_ n5_ n6_; clear hb hbox hg; have hnb4 := NB246_247.out; have hnc4 := NB247_246.out; obtain ⟨hcz5_0, hcz5_1, hcz5_2, hfz5_0, hfz5_1, hfz5_2⟩ := cel3 BK246.out; obtain ⟨hcz6_0, hcz6_1, hcz6_2, hcz6_3, hcz6_4, hcz6_5, hcz6_6, hfz6_0, hfz6_1, hfz6_2, hfz6_3, hfz6_4, hfz6_5, hfz6_6⟩ := cel7 BK247.out))
  refine bodyPost_ret (results_cell_row rfl _ _ gb247 32 #[.int .i64 32, .int .i64 0, .int .i64 0, .int .u8 1, .int .u8 a0_0, .int .u8 a0_1, .int .u8 a0_2] (0, 0) _ rfl (by (with_reducible repeat (first | apply bN | apply bD | apply bA)); refine blk_put (cs := #[.int .i64 32, .int .i64 0, .int .i64 0, .int .u8 1, .int .u8 a0_0, .int .u8 a0_1, .int .u8 0]) ?_ 6 _ rfl; refine blk_put (cs := #[.int .i64 32, .int .i64 0, .int .i64 0, .int .u8 1, .int .u8 a0_0, .int .u8 0, .int .u8 0]) ?_ 5 _ rfl; refine blk_put (cs := #[.int .i64 32, .int .i64 0, .int .i64 0, .int .u8 1, .int .u8 0, .int .u8 0, .int .u8 0]) ?_ 4 _ rfl; refine blk_put (cs := #[.int .i64 32, .int .i64 0, .int .i64 0, .int .u8 0, .int .u8 0, .int .u8 0, .int .u8 0]) ?_ 3 _ rfl; refine blk_put (cs := #[.int .i64 32, .int .i64 0, .int .i64 0, .int .u8 0, .int .u8 0, .int .u8 0, .int .u8 0]) ?_ 2 _ rfl; refine blk_put (cs := #[.int .i64 32, .int .i64 0, .int .i64 0, .int .u8 0, .int .u8 0, .int .u8 0, .int .u8 0]) ?_ 1 _ rfl; refine blk_put (cs := #[.int .i64 0, .int .i64 0, .int .i64 0, .int .u8 0, .int .u8 0, .int .u8 0, .int .u8 0]) ?_ 0 _ rfl; (with_reducible repeat (first | apply bN | apply bD | apply bA)); exact BK247.out) Try.underlying32 rfl (by kernel_rfl)) rfl ?_
  exact ⟨by first | rfl | (simp <;> rfl) | (simp [*] <;> rfl), by repeat (first | (with_reducible first | exact HB.out | apply lA | apply lN | apply lD | refine below_set ?_ GE246.out | refine below_set ?_ GE247.out) | exact HB.out)⟩

def prolepsisref06_alone.f (l0 : List (S32)) (a1 : Int) : Option (Bool) := if 0 ≤ a1 then (if a1 < (l0.length : Int) then (if ((rd_T32 l0 a1).f2) = 2 then (if (wrap64 (a1 + 1)) = (l0.length : Int) then (some true) else (if 0 ≤ (wrap64 (a1 + 1)) then (if (wrap64 (a1 + 1)) < (l0.length : Int) then (some (((rd_T32 l0 (wrap64 (a1 + 1))).f2) != 0)) else (none)) else (none))) else (if ((rd_T32 l0 a1).f2) = 0 then (if a1 = 0 then (some true) else (if 0 ≤ (wrap64 (a1 - 1)) then (if (wrap64 (a1 - 1)) < (l0.length : Int) then (some (((rd_T32 l0 (wrap64 (a1 - 1))).f2) != 2)) else (none)) else (none))) else (some false))) else (none)) else (none)
set_option maxHeartbeats 8000000 in
set_option maxRecDepth 100000 in
theorem prolepsisref06_alone.calls (A0 : Option Addr) (c0 : Nat) (l0 : List (S32)) (a1 : Int) (r : Bool) (w : World) (hr0 : Kd.C k32 w A0 l0.length l0) (hc0 : l0.length ≤ c0) (h : prolepsisref06_alone.f l0 a1 = some r) :
    Calls Try.prog 101 #[.slice A0 l0.length c0, .int .i64 a1] w fun e w' => e = .returned (.bool r) ∧ Drawn0 w w' := by
  have HR0 := Aside0.mk hr0
  have HC0 := Aside0.mk hc0
  clear hr0 hc0
  have H : (if 0 ≤ a1 then (if a1 < (l0.length : Int) then (if ((rd_T32 l0 a1).f2) = 2 then (if (wrap64 (a1 + 1)) = (l0.length : Int) then (some true) else (if 0 ≤ (wrap64 (a1 + 1)) then (if (wrap64 (a1 + 1)) < (l0.length : Int) then (some (((rd_T32 l0 (wrap64 (a1 + 1))).f2) != 0)) else (none)) else (none))) else (if ((rd_T32 l0 a1).f2) = 0 then (if a1 = 0 then (some true) else (if 0 ≤ (wrap64 (a1 - 1)) then (if (wrap64 (a1 - 1)) < (l0.length : Int) then (some (((rd_T32 l0 (wrap64 (a1 - 1))).f2) != 2)) else (none)) else (none))) else (some false))) else (none)) else (none)) = some r := h
  clear h
  by_cases c3 : 0 ≤ a1
  · rw [if_pos c3] at H
    have c3b0 : decide (0 ≤ a1) = true := decide_eq_true c3
    clear c3
    by_cases c4 : a1 < (l0.length : Int)
    · rw [if_pos c4] at H
      have c4b0 : decide (a1 < (l0.length : Int)) = true := decide_eq_true c4
      clear c4
      by_cases c5 : ((rd_T32 l0 a1).f2) = 2
      · rw [if_pos c5] at H
        have c5b0 : (((rd_T32 l0 a1).f2) == 2) = true := beq_iff_eq.mpr c5
        have c5b1 : (((rd_T32 l0 a1).f2) != 2) = false := bne_eq_false_iff_eq.mpr c5
        clear c5
        by_cases c6 : (wrap64 (a1 + 1)) = (l0.length : Int)
        · rw [if_pos c6] at H
          have c6b0 : ((wrap64 (a1 + 1)) == (l0.length : Int)) = true := beq_iff_eq.mpr c6
          have c6b1 : ((wrap64 (a1 + 1)) != (l0.length : Int)) = false := bne_eq_false_iff_eq.mpr c6
          clear c6
          obtain rfl := Option.some.inj H
          have p248 : 0 ≤ (a1 : Int) := of_decide_eq_true (by first | (with_reducible assumption) | assumption)
          have q248 : a1 < (l0.length : Int) := of_decide_eq_true (by first | (with_reducible assumption) | assumption)
          obtain ⟨ad248, e248, hx248_0, hx248_1, hx248_2, hx248_3, hx248_4, hx248_5, hx248_6⟩ := at_T32 HR0.out a1 p248 q248
          cases e248
          replace p248 := eq_true p248
          replace q248 := eq_true q248
          go_enter Try.func101, Try.ntmps101
          go_wp2
          go_ret
          exact ⟨by first | rfl | (simp; done) | (simp [*]; done), by repeat (first | exact Drawn0.refl _ | apply Drawn0.step)⟩
        · rw [if_neg c6] at H
          have c6b0 : ((wrap64 (a1 + 1)) == (l0.length : Int)) = false := beq_eq_false_iff_ne.mpr c6
          have c6b1 : ((wrap64 (a1 + 1)) != (l0.length : Int)) = true := bne_iff_ne.mpr c6
          obtain ⟨ji7, hji7⟩ : ∃ j_ : Int, (wrap64 (a1 + 1)) = j_ := ⟨_, rfl⟩
          replace H : (if 0 ≤ (ji7) then (if (ji7) < (l0.length : Int) then (some (((rd_T32 l0 (ji7)).f2) != 0)) else (none)) else (none)) = some r := by first | (rw [hji7] at H; exact H) | (simp only [hji7] at H ⊢; exact H)
          (try rw [hji7] at c6b0)
          (try rw [hji7] at c6b1)
          have hji7w : (IntKind.i64.wrap (a1 + 1)) = ji7 := (i64_w _).trans hji7
          by_cases c8 : 0 ≤ (ji7)
          · rw [if_pos c8] at H
            have c8b0 : decide (0 ≤ (ji7)) = true := decide_eq_true c8
            clear c8
            by_cases c9 : (ji7) < (l0.length : Int)
            · rw [if_pos c9] at H
              have c9b0 : decide ((ji7) < (l0.length : Int)) = true := decide_eq_true c9
              clear c9
              obtain rfl := Option.some.inj H
              have p248 : 0 ≤ (a1 : Int) := of_decide_eq_true (by first | (with_reducible assumption) | assumption)
              have q248 : a1 < (l0.length : Int) := of_decide_eq_true (by first | (with_reducible assumption) | assumption)
              obtain ⟨ad248, e248, hx248_0, hx248_1, hx248_2, hx248_3, hx248_4, hx248_5, hx248_6⟩ := at_T32 HR0.out a1 p248 q248
              cases e248
              replace p248 := eq_true p248
              replace q248 := eq_true q248
              have p249 : 0 ≤ ((ji7) : Int) := of_decide_eq_true (by first | (with_reducible assumption) | assumption)
              have q249 : (ji7) < (l0.length : Int) := of_decide_eq_true (by first | (with_reducible assumption) | assumption)
              obtain ⟨ad249, e249, hx249_0, hx249_1, hx249_2, hx249_3, hx249_4, hx249_5, hx249_6⟩ := at_T32 HR0.out (ji7) p249 q249
              obtain rfl : ad248 = ad249 := (by injection e249)
              replace p249 := eq_true p249
              replace q249 := eq_true q249
              go_enter Try.func101, Try.ntmps101
              go_wp2
              go_ret
              exact ⟨by first | rfl | (simp; done) | (simp only [← hji7] <;> (first | rfl | simp)) | (simp [*]; done), by repeat (first | exact Drawn0.refl _ | apply Drawn0.step)⟩
            · rw [if_neg c9] at H
              exact absurd H (by simp)
          · rw [if_neg c8] at H
            exact absurd H (by simp)
      · rw [if_neg c5] at H
        have c5b0 : (((rd_T32 l0 a1).f2) == 2) = false := beq_eq_false_iff_ne.mpr c5
        have c5b1 : (((rd_T32 l0 a1).f2) != 2) = true := bne_iff_ne.mpr c5
        by_cases c10 : ((rd_T32 l0 a1).f2) = 0
        · rw [if_pos c10] at H
          have c10b0 : (((rd_T32 l0 a1).f2) == 0) = true := beq_iff_eq.mpr c10
          have c10b1 : (((rd_T32 l0 a1).f2) != 0) = false := bne_eq_false_iff_eq.mpr c10
          clear c10
          by_cases c11 : a1 = 0
          · rw [if_pos c11] at H
            have c11b0 : (a1 == 0) = true := beq_iff_eq.mpr c11
            have c11b1 : (a1 != 0) = false := bne_eq_false_iff_eq.mpr c11
            clear c11
            obtain rfl := Option.some.inj H
            have p248 : 0 ≤ (a1 : Int) := of_decide_eq_true (by first | (with_reducible assumption) | assumption)
            have q248 : a1 < (l0.length : Int) := of_decide_eq_true (by first | (with_reducible assumption) | assumption)
            obtain ⟨ad248, e248, hx248_0, hx248_1, hx248_2, hx248_3, hx248_4, hx248_5, hx248_6⟩ := at_T32 HR0.out a1 p248 q248
            cases e248
            replace p248 := eq_true p248
            replace q248 := eq_true q248
            have p250 : 0 ≤ (a1 : Int) := of_decide_eq_true (by first | (with_reducible assumption) | assumption)
            have q250 : a1 < (l0.length : Int) := of_decide_eq_true (by first | (with_reducible assumption) | assumption)
            obtain ⟨ad250, e250, hx250_0, hx250_1, hx250_2, hx250_3, hx250_4, hx250_5, hx250_6⟩ := at_T32 HR0.out a1 p250 q250
            obtain rfl : ad248 = ad250 := (by injection e250)
            replace p250 := eq_true p250
            replace q250 := eq_true q250
            go_enter Try.func101, Try.ntmps101
            go_wp2
            go_ret
            exact ⟨by first | rfl | (simp; done) | (simp [*]; done), by repeat (first | exact Drawn0.refl _ | apply Drawn0.step)⟩
          · rw [if_neg c11] at H
            have c11b0 : (a1 == 0) = false := beq_eq_false_iff_ne.mpr c11
            have c11b1 : (a1 != 0) = true := bne_iff_ne.mpr c11
            obtain ⟨ji12, hji12⟩ : ∃ j_ : Int, (wrap64 (a1 - 1)) = j_ := ⟨_, rfl⟩
            replace H : (if 0 ≤ (ji12) then (if (ji12) < (l0.length : Int) then (some (((rd_T32 l0 (ji12)).f2) != 2)) else (none)) else (none)) = some r := by first | (rw [hji12] at H; exact H) | (simp only [hji12] at H ⊢; exact H)
            have hji12w : (IntKind.i64.wrap (a1 - 1)) = ji12 := (i64_w _).trans hji12
            by_cases c13 : 0 ≤ (ji12)
            · rw [if_pos c13] at H
              have c13b0 : decide (0 ≤ (ji12)) = true := decide_eq_true c13
              clear c13
              by_cases c14 : (ji12) < (l0.length : Int)
              · rw [if_pos c14] at H
                have c14b0 : decide ((ji12) < (l0.length : Int)) = true := decide_eq_true c14
                clear c14
                obtain rfl := Option.some.inj H
                have p248 : 0 ≤ (a1 : Int) := of_decide_eq_true (by first | (with_reducible assumption) | assumption)
                have q248 : a1 < (l0.length : Int) := of_decide_eq_true (by first | (with_reducible assumption) | assumption)
                obtain ⟨ad248, e248, hx248_0, hx248_1, hx248_2, hx248_3, hx248_4, hx248_5, hx248_6⟩ := at_T32 HR0.out a1 p248 q248
                cases e248
                replace p248 := eq_true p248
                replace q248 := eq_true q248
                have p250 : 0 ≤ (a1 : Int) := of_decide_eq_true (by first | (with_reducible assumption) | assumption)
                have q250 : a1 < (l0.length : Int) := of_decide_eq_true (by first | (with_reducible assumption) | assumption)
                obtain ⟨ad250, e250, hx250_0, hx250_1, hx250_2, hx250_3, hx250_4, hx250_5, hx250_6⟩ := at_T32 HR0.out a1 p250 q250
                obtain rfl : ad248 = ad250 := (by injection e250)
                replace p250 := eq_true p250
                replace q250 := eq_true q250
                have p251 : 0 ≤ ((ji12) : Int) := of_decide_eq_true (by first | (with_reducible assumption) | assumption)
                have q251 : (ji12) < (l0.length : Int) := of_decide_eq_true (by first | (with_reducible assumption) | assumption)
                obtain ⟨ad251, e251, hx251_0, hx251_1, hx251_2, hx251_3, hx251_4, hx251_5, hx251_6⟩ := at_T32 HR0.out (ji12) p251 q251
                obtain rfl : ad248 = ad251 := (by injection e251)
                replace p251 := eq_true p251
                replace q251 := eq_true q251
                go_enter Try.func101, Try.ntmps101
                go_wp2
                go_ret
                exact ⟨by first | rfl | (simp; done) | (simp only [← hji12] <;> (first | rfl | simp)) | (simp [*]; done), by repeat (first | exact Drawn0.refl _ | apply Drawn0.step)⟩
              · rw [if_neg c14] at H
                exact absurd H (by simp)
            · rw [if_neg c13] at H
              exact absurd H (by simp)
        · rw [if_neg c10] at H
          have c10b0 : (((rd_T32 l0 a1).f2) == 0) = false := beq_eq_false_iff_ne.mpr c10
          have c10b1 : (((rd_T32 l0 a1).f2) != 0) = true := bne_iff_ne.mpr c10
          obtain rfl := Option.some.inj H
          have p248 : 0 ≤ (a1 : Int) := of_decide_eq_true (by first | (with_reducible assumption) | assumption)
          have q248 : a1 < (l0.length : Int) := of_decide_eq_true (by first | (with_reducible assumption) | assumption)
          obtain ⟨ad248, e248, hx248_0, hx248_1, hx248_2, hx248_3, hx248_4, hx248_5, hx248_6⟩ := at_T32 HR0.out a1 p248 q248
          cases e248
          replace p248 := eq_true p248
          replace q248 := eq_true q248
          have p250 : 0 ≤ (a1 : Int) := of_decide_eq_true (by first | (with_reducible assumption) | assumption)
          have q250 : a1 < (l0.length : Int) := of_decide_eq_true (by first | (with_reducible assumption) | assumption)
          obtain ⟨ad250, e250, hx250_0, hx250_1, hx250_2, hx250_3, hx250_4, hx250_5, hx250_6⟩ := at_T32 HR0.out a1 p250 q250
          obtain rfl : ad248 = ad250 := (by injection e250)
          replace p250 := eq_true p250
          replace q250 := eq_true q250
          go_enter Try.func101, Try.ntmps101
          go_wp2
          go_ret
          exact ⟨by first | rfl | (simp; done) | (simp [*]; done), by repeat (first | exact Drawn0.refl _ | apply Drawn0.step)⟩
    · rw [if_neg c4] at H
      exact absurd H (by simp)
  · rw [if_neg c3] at H
    exact absurd H (by simp)

def prolepsisref06_Mend.l0 : Nat → List (S32) → List (S32) → Int → Option ((List (S32)))
  | 0, _, _, _ => none
  | k + 1, x0, x3, x4 => if x4 < (x0.length : Int) then (if 0 ≤ x4 then ((prolepsisref06_alone.f x0 x4).bind fun t254 => (if t254 = true then ((prolepsisref05_Blank.f ((rd_T32 x0 x4).f3.f0) ((rd_T32 x0 x4).f3.f1) ((rd_T32 x0 x4).f3.f2)).bind fun bt255 => (if x3.length < 4398046511104 then (prolepsisref06_Mend.l0 k x0 (x3 ++ [(⟨bt255.1, (⟨bt255.2.1, bt255.2.2.1⟩ : S29), bt255.2.2.2.1, (⟨bt255.2.2.2.2.1, bt255.2.2.2.2.2.1, bt255.2.2.2.2.2.2⟩ : S30)⟩ : S32)]) (wrap64 (x4 + 1))) else (none))) else (if x3.length < 4398046511104 then (prolepsisref06_Mend.l0 k x0 (x3 ++ [(⟨(rd_T32 x0 x4).f0, (⟨(rd_T32 x0 x4).f1.f0, (rd_T32 x0 x4).f1.f1⟩ : S29), (rd_T32 x0 x4).f2, (⟨(rd_T32 x0 x4).f3.f0, (rd_T32 x0 x4).f3.f1, (rd_T32 x0 x4).f3.f2⟩ : S30)⟩ : S32)]) (wrap64 (x4 + 1))) else (none)))) else (none)) else (some x3)
def prolepsisref06_Mend.f (k : Nat) (l0 : List (S32)) : Option ((List (S32))) := prolepsisref06_Mend.l0 k l0 ([] : List (S32)) 0
set_option maxHeartbeats 8000000 in
set_option maxRecDepth 100000 in
theorem prolepsisref06_Mend.calls (k : Nat) (A0 : Option Addr) (c0 : Nat) (l0 : List (S32)) (r : List (S32)) (w : World) (hr0 : Kd.C k32 w A0 l0.length l0) (hc0 : l0.length ≤ c0) (h : prolepsisref06_Mend.f k l0 = some r) :
    Calls Try.prog 50 #[.slice A0 l0.length c0] w fun e w' => ∃ v0_ : Value, e = .returned (v0_) ∧ Kd.R k32 32 w' w.heap.size (fun _ => True) v0_ r ∧ Below w.heap.size w w' := by
  have hu32 := Try.underlying32
  have hu30 := Try.underlying30
  have HR0 := Aside0.mk hr0
  have HC0 := Aside0.mk hc0
  clear hr0 hc0
  have HB := aS (Below.refl w.heap.size w)
  have H : (prolepsisref06_Mend.l0 k l0 ([] : List (S32)) 0) = some r := h
  clear h
  have H' := Aside0.mk H
  clear H
  go_enter Try.func50, Try.ntmps50
  go_wp2
  go_loopg [3, 4] k (fun kq v3 v4 w' => ∃ (x3_1 : List (S32)) (x4_1 : Int), v4 = .int .i64 x4_1 ∧ Aside0 (prolepsisref06_Mend.l0 kq l0 x3_1 x4_1 = some r) ∧ Aside0 (kq ≤ k) ∧ Aside0 (Kd.R k32 32 w' w.heap.size (fun _ => True) v3 x3_1) ∧ Aside0 (Below w.heap.size w w'))
  case atStart => exact ⟨(([] : List (S32))), (0), (by first | rfl | (simp; done) | (simp [*]; done)), H', ⟨Nat.le_refl _⟩, ⟨by first | exact Kd.R_nil _ _ _ _ _ | exact Kd.N_nil _ _ _ _ _ | exact Kd.V_nil _ _ _ _ _ | exact Kd.Q_nil _ _ _ _ _ | exact Kd.S_nil _ _ _ _ _⟩, ⟨by repeat (first | (with_reducible first | exact HB.out | apply lA | apply lN | apply lD) | exact HB.out)⟩⟩
  case round =>
    clear H'
    obtain ⟨x3_1, x4_1, rfl, HA, HK1, HO_3, HB⟩ := hrel
    cases gk with
    | zero => exact absurd HA.out (by simp [prolepsisref06_Mend.l0])
    | succ k1 =>
      have H := HA.out
      clear HA
      simp only [prolepsisref06_Mend.l0] at H
      by_cases c2 : x4_1 < (l0.length : Int)
      · rw [if_pos c2] at H
        have c2b0 : decide (x4_1 < (l0.length : Int)) = true := decide_eq_true c2
        clear c2
        by_cases c3 : 0 ≤ x4_1
        · rw [if_pos c3] at H
          have c3b0 : decide (0 ≤ x4_1) = true := decide_eq_true c3
          clear c3
          replace H := Option.bind_eq_some_iff.mp H
          obtain ⟨t254, A40, H⟩ := H
          try dsimp only at H
          have A4 := Aside0.mk A40
          clear A40
          by_cases c5 : t254 = true
          · subst c5
            have H1 : ((prolepsisref05_Blank.f ((rd_T32 l0 x4_1).f3.f0) ((rd_T32 l0 x4_1).f3.f1) ((rd_T32 l0 x4_1).f3.f2)).bind fun bt255 => (if x3_1.length < 4398046511104 then (prolepsisref06_Mend.l0 k1 l0 (x3_1 ++ [(⟨bt255.1, (⟨bt255.2.1, bt255.2.2.1⟩ : S29), bt255.2.2.2.1, (⟨bt255.2.2.2.2.1, bt255.2.2.2.2.2.1, bt255.2.2.2.2.2.2⟩ : S30)⟩ : S32)]) (wrap64 (x4_1 + 1))) else (none))) = some r := by rw [if_pos rfl] at H; exact H
            clear H
            have H := H1
            clear H1
            replace H := Option.bind_eq_some_iff.mp H
            obtain ⟨⟨t255, t256, t257, t258, t259, t260, t261⟩, A60, H⟩ := H
            try dsimp only at H
            have A6 := Aside0.mk A60
            clear A60
            by_cases c7 : x3_1.length < 4398046511104
            · rw [if_pos c7] at H
              have LMc7 := Aside0.mk c7
              clear c7
              obtain ⟨y262, hy262⟩ : ∃ y_ : List (S32), y_ = (x3_1 ++ [(⟨t255, (⟨t256, t257⟩ : S29), t258, (⟨t259, t260, t261⟩ : S30)⟩ : S32)]) := ⟨_, rfl⟩
              replace H : (prolepsisref06_Mend.l0 k1 l0 y262 (wrap64 (x4_1 + 1))) = some r := by first | (rw [hy262]; with_reducible exact H) | (have H2_ := (Option.bind_some _ _).symm.trans H; rw [hy262]; with_reducible exact H2_) | (have H2_ := (Option.bind_some _ _).symm.trans H; with_reducible exact H2_) | with_reducible exact H | (rw [hy262]; exact H) | exact H
              have Ny262 := Aside0.mk hy262
              clear hy262
              have H' := Aside0.mk H
              clear H
              have p252 : 0 ≤ (x4_1 : Int) := of_decide_eq_true (by first | (with_reducible assumption) | assumption)
              have q252 : x4_1 < (l0.length : Int) := of_decide_eq_true (by first | (with_reducible assumption) | assumption)
              obtain ⟨ad252, e252, hx252_0, hx252_1, hx252_2, hx252_3, hx252_4, hx252_5, hx252_6⟩ := at_T32 HR0.out x4_1 p252 q252
              cases e252
              replace hx252_0 := (HB.out.cell (World.block_lt_of_cell? w _ hx252_0)).trans hx252_0
              replace hx252_1 := (HB.out.cell (World.block_lt_of_cell? w _ hx252_1)).trans hx252_1
              replace hx252_2 := (HB.out.cell (World.block_lt_of_cell? w _ hx252_2)).trans hx252_2
              replace hx252_3 := (HB.out.cell (World.block_lt_of_cell? w _ hx252_3)).trans hx252_3
              replace hx252_4 := (HB.out.cell (World.block_lt_of_cell? w _ hx252_4)).trans hx252_4
              replace hx252_5 := (HB.out.cell (World.block_lt_of_cell? w _ hx252_5)).trans hx252_5
              replace hx252_6 := (HB.out.cell (World.block_lt_of_cell? w _ hx252_6)).trans hx252_6
              replace p252 := eq_true p252
              replace q252 := eq_true q252
              go_wp2_with (first | ((with_reducible refine gate_dst (N := 5) rfl ?_); refine box_event ?hg (N := 5) ?hd (cs := #[.int .i64 0, .int .i64 0, .int .i64 0, .int .u8 0, .int .u8 0, .int .u8 0, .int .u8 0]) (t := 32) ?hr ?_; (case hd => rfl); (case hg => rfl); (case hr => first | (go_simp; done) | (go_simp; rfl)); intro gb253 hg w8 hbox hb; have n0_ := aS (Kd.R_below (Kd.R_elderB (by (with_reducible repeat (first | apply rA | apply rN | apply rD)); exact HO_3.out) gb253 (Nat.le_of_eq hg.symm)) hb); have n1_ := aS (below_step (by repeat (first | (with_reducible first | exact HB.out | apply lA | apply lN | apply lD) | exact HB.out)) hb); have n2_ := aS (hbox); have n3_ := aS ((by rw [hg]; exact (below_size (by repeat (first | (with_reducible first | exact HB.out | apply lA | apply lN | apply lD) | exact HB.out))) : w.heap.size ≤ gb253)); have n4_ := aS ((by rw [hg]; exact (below_size (by repeat (first | (with_reducible first | exact HB.out | apply lA | apply lN | apply lD) | exact HB.out))) : w.heap.size ≤ gb253)); clear HO_3; clear HB; have HO_3 := n0_; have HB := n1_; have BK253 := n2_; have GW253 := n3_; have GE253 := n4_; clear n0_ n1_ n2_ n3_ n4_; clear hb hbox hg; obtain ⟨hcz9_0, hcz9_1, hcz9_2, hcz9_3, hcz9_4, hcz9_5, hcz9_6, hfz9_0, hfz9_1, hfz9_2, hfz9_3, hfz9_4, hfz9_5, hfz9_6⟩ := cel7 BK253.out) | ((with_reducible refine gate_callee (f := 101) rfl ?_); refine goesL_ (some 18) rfl rfl Try.func101 (by kernel_rfl) rfl #[.slice (some ad252) l0.length c0, .int .i64 x4_1] rfl (by (try simp only [List.map_toArray, List.map_cons, List.map_nil]); first | done | rfl | (simp only [List.length_drop, List.length_take]; rfl)) ?_; (with_reducible refine (prolepsisref06_alone.calls _ _ l0 x4_1 true _ ?side1 ?side2 A4.out).mono ?_); (case side1 => exact Kd.C_below HR0.out (by repeat (first | (with_reducible first | exact HB.out | apply lA | apply lN | apply lD | refine below_set ?_ GE253.out) | exact HB.out))); (case side2 => exact HC0.out); rintro e w' ⟨rfl, ⟨nd, rfl⟩⟩; refine ⟨_, rfl, ?_⟩) | ((with_reducible refine gate_callee (f := 22) rfl ?_); refine goesL_ (some 21) rfl rfl Try.func22 (by kernel_rfl) rfl #[.agg #[.int .u8 ((rd_T32 l0 x4_1).f3.f0), .int .u8 ((rd_T32 l0 x4_1).f3.f1), .int .u8 ((rd_T32 l0 x4_1).f3.f2)]] rfl (by (try simp only [List.map_toArray, List.map_cons, List.map_nil]); first | done | rfl | (simp only [List.length_drop, List.length_take]; rfl)) ?_; (with_reducible refine (prolepsisref05_Blank.calls ((rd_T32 l0 x4_1).f3.f0) ((rd_T32 l0 x4_1).f3.f1) ((rd_T32 l0 x4_1).f3.f2) t255 t256 t257 t258 t259 t260 t261 _ A6.out).mono ?_); rintro e w10 ⟨rfl, hb⟩; refine ⟨_, rfl, ?_⟩; have n0_ := aS (Kd.R_below (by (with_reducible repeat (first | apply rA | apply rN | apply rD)); exact (Kd.R_mono (Kd.R_far (p := ⟨gb253, 6, none⟩) (Kd.R_far (p := ⟨gb253, 5, none⟩) (Kd.R_far (p := ⟨gb253, 4, none⟩) (Kd.R_far (p := ⟨gb253, 3, none⟩) (Kd.R_far (p := ⟨gb253, 2, none⟩) (Kd.R_far (p := ⟨gb253, 1, none⟩) (Kd.R_far (p := ⟨gb253, 0, none⟩) (Kd.R_mono HO_3.out (fun k_ hk => (⟨hk, hk.2⟩ : _ ∧ k_ ≠ gb253))) (fun _ hk => hk.2) (.int .i64 ((rd_T32 l0 x4_1).f0))) (fun _ hk => hk.2) (.int .i64 ((rd_T32 l0 x4_1).f1.f0))) (fun _ hk => hk.2) (.int .i64 ((rd_T32 l0 x4_1).f1.f1))) (fun _ hk => hk.2) (.int .u8 ((rd_T32 l0 x4_1).f2))) (fun _ hk => hk.2) (.int .u8 ((rd_T32 l0 x4_1).f3.f0))) (fun _ hk => hk.2) (.int .u8 ((rd_T32 l0 x4_1).f3.f1))) (fun _ hk => hk.2) (.int .u8 ((rd_T32 l0 x4_1).f3.f2))) (fun _ h_ => h_.1))) hb); have n1_ := aS (blk_below (g := gb253) (o := .cells #[.int .i64 ((rd_T32 l0 x4_1).f0), .int .i64 ((rd_T32 l0 x4_1).f1.f0), .int .i64 ((rd_T32 l0 x4_1).f1.f1), .int .u8 ((rd_T32 l0 x4_1).f2), .int .u8 ((rd_T32 l0 x4_1).f3.f0), .int .u8 ((rd_T32 l0 x4_1).f3.f1), .int .u8 ((rd_T32 l0 x4_1).f3.f2)] 32 (0, 0)) (by (with_reducible repeat (first | apply bN | apply bD | apply bA)); refine blk_put (cs := #[.int .i64 ((rd_T32 l0 x4_1).f0), .int .i64 ((rd_T32 l0 x4_1).f1.f0), .int .i64 ((rd_T32 l0 x4_1).f1.f1), .int .u8 ((rd_T32 l0 x4_1).f2), .int .u8 ((rd_T32 l0 x4_1).f3.f0), .int .u8 ((rd_T32 l0 x4_1).f3.f1), .int .u8 0]) ?_ 6 _ rfl; refine blk_put (cs := #[.int .i64 ((rd_T32 l0 x4_1).f0), .int .i64 ((rd_T32 l0 x4_1).f1.f0), .int .i64 ((rd_T32 l0 x4_1).f1.f1), .int .u8 ((rd_T32 l0 x4_1).f2), .int .u8 ((rd_T32 l0 x4_1).f3.f0), .int .u8 0, .int .u8 0]) ?_ 5 _ rfl; refine blk_put (cs := #[.int .i64 ((rd_T32 l0 x4_1).f0), .int .i64 ((rd_T32 l0 x4_1).f1.f0), .int .i64 ((rd_T32 l0 x4_1).f1.f1), .int .u8 ((rd_T32 l0 x4_1).f2), .int .u8 0, .int .u8 0, .int .u8 0]) ?_ 4 _ rfl; refine blk_put (cs := #[.int .i64 ((rd_T32 l0 x4_1).f0), .int .i64 ((rd_T32 l0 x4_1).f1.f0), .int .i64 ((rd_T32 l0 x4_1).f1.f1), .int .u8 0, .int .u8 0, .int .u8 0, .int .u8 0]) ?_ 3 _ rfl; refine blk_put (cs := #[.int .i64 ((rd_T32 l0 x4_1).f0), .int .i64 ((rd_T32 l0 x4_1).f1.f0), .int .i64 0, .int .u8 0, .int .u8 0, .int .u8 0, .int .u8 0]) ?_ 2 _ rfl; refine blk_put (cs := #[.int .i64 ((rd_T32 l0 x4_1).f0), .int .i64 0, .int .i64 0, .int .u8 0, .int .u8 0, .int .u8 0, .int .u8 0]) ?_ 1 _ rfl; refine blk_put (cs := #[.int .i64 0, .int .i64 0, .int .i64 0, .int .u8 0, .int .u8 0, .int .u8 0, .int .u8 0]) ?_ 0 _ rfl; (with_reducible repeat (first | apply bN | apply bD | apply bA)); exact BK253.out) hb); have n2_ := aS (below_step (by repeat (first | (with_reducible first | exact HB.out | apply lA | apply lN | apply lD | refine below_set ?_ GE253.out) | exact HB.out)) hb); clear HO_3; clear BK253; clear HB; have HO_3 := n0_; have BK253 := n1_; have HB := n2_; clear n0_ n1_ n2_; (try clear hb); (try clear hb2); (try clear hk); (try clear hi); obtain ⟨hcz11_0, hcz11_1, hcz11_2, hcz11_3, hcz11_4, hcz11_5, hcz11_6, hfz11_0, hfz11_1, hfz11_2, hfz11_3, hfz11_4, hfz11_5, hfz11_6⟩ := cel7 BK253.out) | ((with_reducible refine gate_builtin (b := .append) (xs := #[.tmp 22, .tmp 24]) rfl ?_); at_builtin; refine Kd.R_append k32 (w0 := w) w.heap.size rfl (.tmp 22) (.tmp 24) 67 32 (.agg #[(.int .i64 0), (.int .i64 0), (.int .i64 0), (.int .u8 0), (.int .u8 0), (.int .u8 0), (.int .u8 0)]) 32 rfl Try.underlying67 info32 rfl (by decide) (by omega) u3 x3_1 (⟨t255, (⟨t256, t257⟩ : S29), t258, (⟨t259, t260, t261⟩ : S30)⟩ : S32) [.int .i64 t255, .int .i64 t256, .int .i64 t257, .int .u8 t258, .int .u8 t259, .int .u8 t260, .int .u8 t261] (fun k_ => k_ ≠ gb253) (fun _ => False) rfl (by first | (go_simp; done) | (go_simp; rfl)) ?aP (fun _ hk => hk.elim) ?aF ?aO ?aB ?aS ?aL ?_; (case aP => exact k32_mkM _ _ _ (⟨t255, (⟨t256, t257⟩ : S29), t258, (⟨t259, t260, t261⟩ : S30)⟩ : S32)); (case aB => exact (by repeat (first | (with_reducible first | exact HB.out | apply lA | apply lN | apply lD | refine below_set ?_ GE253.out) | exact HB.out))); (case aF => exact (fun k_ hk => Kd.freshB (g := gb253) (o := .cells #[.int .i64 t255, .int .i64 t256, .int .i64 t257, .int .u8 t258, .int .u8 t259, .int .u8 t260, .int .u8 t261] 32 (0, 0)) (by (with_reducible repeat (first | apply bN | apply bD | apply bA)); refine blk_put (cs := #[.int .i64 t255, .int .i64 t256, .int .i64 t257, .int .u8 t258, .int .u8 t259, .int .u8 t260, .int .u8 ((rd_T32 l0 x4_1).f3.f2)]) ?_ 6 _ rfl; refine blk_put (cs := #[.int .i64 t255, .int .i64 t256, .int .i64 t257, .int .u8 t258, .int .u8 t259, .int .u8 ((rd_T32 l0 x4_1).f3.f1), .int .u8 ((rd_T32 l0 x4_1).f3.f2)]) ?_ 5 _ rfl; refine blk_put (cs := #[.int .i64 t255, .int .i64 t256, .int .i64 t257, .int .u8 t258, .int .u8 ((rd_T32 l0 x4_1).f3.f0), .int .u8 ((rd_T32 l0 x4_1).f3.f1), .int .u8 ((rd_T32 l0 x4_1).f3.f2)]) ?_ 4 _ rfl; refine blk_put (cs := #[.int .i64 t255, .int .i64 t256, .int .i64 t257, .int .u8 ((rd_T32 l0 x4_1).f2), .int .u8 ((rd_T32 l0 x4_1).f3.f0), .int .u8 ((rd_T32 l0 x4_1).f3.f1), .int .u8 ((rd_T32 l0 x4_1).f3.f2)]) ?_ 3 _ rfl; refine blk_put (cs := #[.int .i64 t255, .int .i64 t256, .int .i64 ((rd_T32 l0 x4_1).f1.f1), .int .u8 ((rd_T32 l0 x4_1).f2), .int .u8 ((rd_T32 l0 x4_1).f3.f0), .int .u8 ((rd_T32 l0 x4_1).f3.f1), .int .u8 ((rd_T32 l0 x4_1).f3.f2)]) ?_ 2 _ rfl; refine blk_put (cs := #[.int .i64 t255, .int .i64 ((rd_T32 l0 x4_1).f1.f0), .int .i64 ((rd_T32 l0 x4_1).f1.f1), .int .u8 ((rd_T32 l0 x4_1).f2), .int .u8 ((rd_T32 l0 x4_1).f3.f0), .int .u8 ((rd_T32 l0 x4_1).f3.f1), .int .u8 ((rd_T32 l0 x4_1).f3.f2)]) ?_ 1 _ rfl; refine blk_put (cs := #[.int .i64 ((rd_T32 l0 x4_1).f0), .int .i64 ((rd_T32 l0 x4_1).f1.f0), .int .i64 ((rd_T32 l0 x4_1).f1.f1), .int .u8 ((rd_T32 l0 x4_1).f2), .int .u8 ((rd_T32 l0 x4_1).f3.f0), .int .u8 ((rd_T32 l0 x4_1).f3.f1), .int .u8 ((rd_T32 l0 x4_1).f3.f2)]) ?_ 0 _ rfl; (with_reducible repeat (first | apply bN | apply bD | apply bA)); exact BK253.out) k_ hk)); (case aO => exact (by (with_reducible repeat (first | apply rA | apply rN | apply rD)); exact Kd.R_mono (Kd.R_far (p := ⟨gb253, 6, none⟩) (Kd.R_far (p := ⟨gb253, 5, none⟩) (Kd.R_far (p := ⟨gb253, 4, none⟩) (Kd.R_far (p := ⟨gb253, 3, none⟩) (Kd.R_far (p := ⟨gb253, 2, none⟩) (Kd.R_far (p := ⟨gb253, 1, none⟩) (Kd.R_far (p := ⟨gb253, 0, none⟩) (Kd.R_mono HO_3.out (fun k_ hk => (⟨hk, hk.2⟩ : _ ∧ k_ ≠ gb253))) (fun _ hk => hk.2) (.int .i64 t255)) (fun _ hk => hk.2) (.int .i64 t256)) (fun _ hk => hk.2) (.int .i64 t257)) (fun _ hk => hk.2) (.int .u8 t258)) (fun _ hk => hk.2) (.int .u8 t259)) (fun _ hk => hk.2) (.int .u8 t260)) (fun _ hk => hk.2) (.int .u8 t261)) (fun _ hk => hk.1.2))); (case aS => exact (below_size (by repeat (first | (with_reducible first | exact HB.out | apply lA | apply lN | apply lD | refine below_set ?_ GE253.out) | exact HB.out)))); (case aL => have := LMc7.out; omega); intro v263 w12 ho hb hg hat; rw [← Ny262.out] at ho; have n0_ := aS (blk_grown (g := gb253) (o := .cells #[.int .i64 t255, .int .i64 t256, .int .i64 t257, .int .u8 t258, .int .u8 t259, .int .u8 t260, .int .u8 t261] 32 (0, 0)) (by (with_reducible repeat (first | apply bN | apply bD | apply bA)); refine blk_put (cs := #[.int .i64 t255, .int .i64 t256, .int .i64 t257, .int .u8 t258, .int .u8 t259, .int .u8 t260, .int .u8 ((rd_T32 l0 x4_1).f3.f2)]) ?_ 6 _ rfl; refine blk_put (cs := #[.int .i64 t255, .int .i64 t256, .int .i64 t257, .int .u8 t258, .int .u8 t259, .int .u8 ((rd_T32 l0 x4_1).f3.f1), .int .u8 ((rd_T32 l0 x4_1).f3.f2)]) ?_ 5 _ rfl; refine blk_put (cs := #[.int .i64 t255, .int .i64 t256, .int .i64 t257, .int .u8 t258, .int .u8 ((rd_T32 l0 x4_1).f3.f0), .int .u8 ((rd_T32 l0 x4_1).f3.f1), .int .u8 ((rd_T32 l0 x4_1).f3.f2)]) ?_ 4 _ rfl; refine blk_put (cs := #[.int .i64 t255, .int .i64 t256, .int .i64 t257, .int .u8 ((rd_T32 l0 x4_1).f2), .int .u8 ((rd_T32 l0 x4_1).f3.f0), .int .u8 ((rd_T32 l0 x4_1).f3.f1), .int .u8 ((rd_T32 l0 x4_1).f3.f2)]) ?_ 3 _ rfl; refine blk_put (cs := #[.int .i64 t255, .int .i64 t256, .int .i64 ((rd_T32 l0 x4_1).f1.f1), .int .u8 ((rd_T32 l0 x4_1).f2), .int .u8 ((rd_T32 l0 x4_1).f3.f0), .int .u8 ((rd_T32 l0 x4_1).f3.f1), .int .u8 ((rd_T32 l0 x4_1).f3.f2)]) ?_ 2 _ rfl; refine blk_put (cs := #[.int .i64 t255, .int .i64 ((rd_T32 l0 x4_1).f1.f0), .int .i64 ((rd_T32 l0 x4_1).f1.f1), .int .u8 ((rd_T32 l0 x4_1).f2), .int .u8 ((rd_T32 l0 x4_1).f3.f0), .int .u8 ((rd_T32 l0 x4_1).f3.f1), .int .u8 ((rd_T32 l0 x4_1).f3.f2)]) ?_ 1 _ rfl; refine blk_put (cs := #[.int .i64 ((rd_T32 l0 x4_1).f0), .int .i64 ((rd_T32 l0 x4_1).f1.f0), .int .i64 ((rd_T32 l0 x4_1).f1.f1), .int .u8 ((rd_T32 l0 x4_1).f2), .int .u8 ((rd_T32 l0 x4_1).f3.f0), .int .u8 ((rd_T32 l0 x4_1).f3.f1), .int .u8 ((rd_T32 l0 x4_1).f3.f2)]) ?_ 0 _ rfl; (with_reducible repeat (first | apply bN | apply bD | apply bA)); exact BK253.out) hg (Kd.R_away HO_3.out (fun _ hk => hk.2))); have n1_ := aS (hb); have n2_ := aS (ho); clear BK253; clear HB; clear HO_3; have BK253 := n0_; have HB := n1_; have HO264 := n2_; clear n0_ n1_ n2_; clear ho hb hg hat))
              go_roundg k1
              case measure => have := HK1.out; omega
              case rel => exact ⟨(y262), (wrap64 (x4_1 + 1)), (by first | rfl | (simp; done) | (simp [*]; done)), H', ⟨by have := HK1.out; omega⟩, ⟨by (with_reducible repeat (first | apply rA | apply rN | apply rD)); exact Kd.R_mono HO264.out (fun _ hk => trivial)⟩, ⟨by repeat (first | (with_reducible first | exact HB.out | apply lA | apply lN | apply lD | refine below_set ?_ GE253.out) | exact HB.out)⟩⟩
            · rw [if_neg c7] at H
              exact absurd H (by simp)
          · replace c5 := Bool.eq_false_iff.mpr c5
            subst c5
            have H1 : (if x3_1.length < 4398046511104 then (prolepsisref06_Mend.l0 k1 l0 (x3_1 ++ [(⟨(rd_T32 l0 x4_1).f0, (⟨(rd_T32 l0 x4_1).f1.f0, (rd_T32 l0 x4_1).f1.f1⟩ : S29), (rd_T32 l0 x4_1).f2, (⟨(rd_T32 l0 x4_1).f3.f0, (rd_T32 l0 x4_1).f3.f1, (rd_T32 l0 x4_1).f3.f2⟩ : S30)⟩ : S32)]) (wrap64 (x4_1 + 1))) else (none)) = some r := by rw [if_neg (show ¬ (false = true) by decide)] at H; exact H
            clear H
            have H := H1
            clear H1
            by_cases c13 : x3_1.length < 4398046511104
            · rw [if_pos c13] at H
              have LMc13 := Aside0.mk c13
              clear c13
              obtain ⟨y265, hy265⟩ : ∃ y_ : List (S32), y_ = (x3_1 ++ [(⟨(rd_T32 l0 x4_1).f0, (⟨(rd_T32 l0 x4_1).f1.f0, (rd_T32 l0 x4_1).f1.f1⟩ : S29), (rd_T32 l0 x4_1).f2, (⟨(rd_T32 l0 x4_1).f3.f0, (rd_T32 l0 x4_1).f3.f1, (rd_T32 l0 x4_1).f3.f2⟩ : S30)⟩ : S32)]) := ⟨_, rfl⟩
              replace H : (prolepsisref06_Mend.l0 k1 l0 y265 (wrap64 (x4_1 + 1))) = some r := by first | (rw [hy265]; with_reducible exact H) | (have H2_ := (Option.bind_some _ _).symm.trans H; rw [hy265]; with_reducible exact H2_) | (have H2_ := (Option.bind_some _ _).symm.trans H; with_reducible exact H2_) | with_reducible exact H | (rw [hy265]; exact H) | exact H
              have Ny265 := Aside0.mk hy265
              clear hy265
              have H' := Aside0.mk H
              clear H
              have p252 : 0 ≤ (x4_1 : Int) := of_decide_eq_true (by first | (with_reducible assumption) | assumption)
              have q252 : x4_1 < (l0.length : Int) := of_decide_eq_true (by first | (with_reducible assumption) | assumption)
              obtain ⟨ad252, e252, hx252_0, hx252_1, hx252_2, hx252_3, hx252_4, hx252_5, hx252_6⟩ := at_T32 HR0.out x4_1 p252 q252
              cases e252
              replace hx252_0 := (HB.out.cell (World.block_lt_of_cell? w _ hx252_0)).trans hx252_0
              replace hx252_1 := (HB.out.cell (World.block_lt_of_cell? w _ hx252_1)).trans hx252_1
              replace hx252_2 := (HB.out.cell (World.block_lt_of_cell? w _ hx252_2)).trans hx252_2
              replace hx252_3 := (HB.out.cell (World.block_lt_of_cell? w _ hx252_3)).trans hx252_3
              replace hx252_4 := (HB.out.cell (World.block_lt_of_cell? w _ hx252_4)).trans hx252_4
              replace hx252_5 := (HB.out.cell (World.block_lt_of_cell? w _ hx252_5)).trans hx252_5
              replace hx252_6 := (HB.out.cell (World.block_lt_of_cell? w _ hx252_6)).trans hx252_6
              replace p252 := eq_true p252
              replace q252 := eq_true q252
              go_wp2_with (first | ((with_reducible refine gate_dst (N := 5) rfl ?_); refine box_event ?hg (N := 5) ?hd (cs := #[.int .i64 0, .int .i64 0, .int .i64 0, .int .u8 0, .int .u8 0, .int .u8 0, .int .u8 0]) (t := 32) ?hr ?_; (case hd => rfl); (case hg => rfl); (case hr => first | (go_simp; done) | (go_simp; rfl)); intro gb253 hg w14 hbox hb; have n0_ := aS (Kd.R_below (Kd.R_elderB (by (with_reducible repeat (first | apply rA | apply rN | apply rD)); exact HO_3.out) gb253 (Nat.le_of_eq hg.symm)) hb); have n1_ := aS (below_step (by repeat (first | (with_reducible first | exact HB.out | apply lA | apply lN | apply lD) | exact HB.out)) hb); have n2_ := aS (hbox); have n3_ := aS ((by rw [hg]; exact (below_size (by repeat (first | (with_reducible first | exact HB.out | apply lA | apply lN | apply lD) | exact HB.out))) : w.heap.size ≤ gb253)); have n4_ := aS ((by rw [hg]; exact (below_size (by repeat (first | (with_reducible first | exact HB.out | apply lA | apply lN | apply lD) | exact HB.out))) : w.heap.size ≤ gb253)); clear HO_3; clear HB; have HO_3 := n0_; have HB := n1_; have BK253 := n2_; have GW253 := n3_; have GE253 := n4_; clear n0_ n1_ n2_ n3_ n4_; clear hb hbox hg; obtain ⟨hcz15_0, hcz15_1, hcz15_2, hcz15_3, hcz15_4, hcz15_5, hcz15_6, hfz15_0, hfz15_1, hfz15_2, hfz15_3, hfz15_4, hfz15_5, hfz15_6⟩ := cel7 BK253.out) | ((with_reducible refine gate_callee (f := 101) rfl ?_); refine goesL_ (some 18) rfl rfl Try.func101 (by kernel_rfl) rfl #[.slice (some ad252) l0.length c0, .int .i64 x4_1] rfl (by (try simp only [List.map_toArray, List.map_cons, List.map_nil]); first | done | rfl | (simp only [List.length_drop, List.length_take]; rfl)) ?_; (with_reducible refine (prolepsisref06_alone.calls _ _ l0 x4_1 false _ ?side1 ?side2 A4.out).mono ?_); (case side1 => exact Kd.C_below HR0.out (by repeat (first | (with_reducible first | exact HB.out | apply lA | apply lN | apply lD | refine below_set ?_ GE253.out) | exact HB.out))); (case side2 => exact HC0.out); rintro e w' ⟨rfl, ⟨nd, rfl⟩⟩; refine ⟨_, rfl, ?_⟩) | ((with_reducible refine gate_builtin (b := .append) (xs := #[.tmp 22, .tmp 24]) rfl ?_); at_builtin; refine Kd.R_append k32 (w0 := w) w.heap.size rfl (.tmp 22) (.tmp 24) 67 32 (.agg #[(.int .i64 0), (.int .i64 0), (.int .i64 0), (.int .u8 0), (.int .u8 0), (.int .u8 0), (.int .u8 0)]) 32 rfl Try.underlying67 info32 rfl (by decide) (by omega) u3 x3_1 (⟨(rd_T32 l0 x4_1).f0, (⟨(rd_T32 l0 x4_1).f1.f0, (rd_T32 l0 x4_1).f1.f1⟩ : S29), (rd_T32 l0 x4_1).f2, (⟨(rd_T32 l0 x4_1).f3.f0, (rd_T32 l0 x4_1).f3.f1, (rd_T32 l0 x4_1).f3.f2⟩ : S30)⟩ : S32) [.int .i64 ((rd_T32 l0 x4_1).f0), .int .i64 ((rd_T32 l0 x4_1).f1.f0), .int .i64 ((rd_T32 l0 x4_1).f1.f1), .int .u8 ((rd_T32 l0 x4_1).f2), .int .u8 ((rd_T32 l0 x4_1).f3.f0), .int .u8 ((rd_T32 l0 x4_1).f3.f1), .int .u8 ((rd_T32 l0 x4_1).f3.f2)] (fun k_ => k_ ≠ gb253) (fun _ => False) rfl (by first | (go_simp; done) | (go_simp; rfl)) ?aP (fun _ hk => hk.elim) ?aF ?aO ?aB ?aS ?aL ?_; (case aP => exact k32_mkM _ _ _ (⟨(rd_T32 l0 x4_1).f0, (⟨(rd_T32 l0 x4_1).f1.f0, (rd_T32 l0 x4_1).f1.f1⟩ : S29), (rd_T32 l0 x4_1).f2, (⟨(rd_T32 l0 x4_1).f3.f0, (rd_T32 l0 x4_1).f3.f1, (rd_T32 l0 x4_1).f3.f2⟩ : S30)⟩ : S32)); (case aB => exact (by repeat (first | (with_reducible first | exact HB.out | apply lA | apply lN | apply lD | refine below_set ?_ GE253.out) | exact HB.out))); (case aF => exact (fun k_ hk => Kd.freshB (g := gb253) (o := .cells #[.int .i64 ((rd_T32 l0 x4_1).f0), .int .i64 ((rd_T32 l0 x4_1).f1.f0), .int .i64 ((rd_T32 l0 x4_1).f1.f1), .int .u8 ((rd_T32 l0 x4_1).f2), .int .u8 ((rd_T32 l0 x4_1).f3.f0), .int .u8 ((rd_T32 l0 x4_1).f3.f1), .int .u8 ((rd_T32 l0 x4_1).f3.f2)] 32 (0, 0)) (by (with_reducible repeat (first | apply bN | apply bD | apply bA)); refine blk_put (cs := #[.int .i64 ((rd_T32 l0 x4_1).f0), .int .i64 ((rd_T32 l0 x4_1).f1.f0), .int .i64 ((rd_T32 l0 x4_1).f1.f1), .int .u8 ((rd_T32 l0 x4_1).f2), .int .u8 ((rd_T32 l0 x4_1).f3.f0), .int .u8 ((rd_T32 l0 x4_1).f3.f1), .int .u8 0]) ?_ 6 _ rfl; refine blk_put (cs := #[.int .i64 ((rd_T32 l0 x4_1).f0), .int .i64 ((rd_T32 l0 x4_1).f1.f0), .int .i64 ((rd_T32 l0 x4_1).f1.f1), .int .u8 ((rd_T32 l0 x4_1).f2), .int .u8 ((rd_T32 l0 x4_1).f3.f0), .int .u8 0, .int .u8 0]) ?_ 5 _ rfl; refine blk_put (cs := #[.int .i64 ((rd_T32 l0 x4_1).f0), .int .i64 ((rd_T32 l0 x4_1).f1.f0), .int .i64 ((rd_T32 l0 x4_1).f1.f1), .int .u8 ((rd_T32 l0 x4_1).f2), .int .u8 0, .int .u8 0, .int .u8 0]) ?_ 4 _ rfl; refine blk_put (cs := #[.int .i64 ((rd_T32 l0 x4_1).f0), .int .i64 ((rd_T32 l0 x4_1).f1.f0), .int .i64 ((rd_T32 l0 x4_1).f1.f1), .int .u8 0, .int .u8 0, .int .u8 0, .int .u8 0]) ?_ 3 _ rfl; refine blk_put (cs := #[.int .i64 ((rd_T32 l0 x4_1).f0), .int .i64 ((rd_T32 l0 x4_1).f1.f0), .int .i64 0, .int .u8 0, .int .u8 0, .int .u8 0, .int .u8 0]) ?_ 2 _ rfl; refine blk_put (cs := #[.int .i64 ((rd_T32 l0 x4_1).f0), .int .i64 0, .int .i64 0, .int .u8 0, .int .u8 0, .int .u8 0, .int .u8 0]) ?_ 1 _ rfl; refine blk_put (cs := #[.int .i64 0, .int .i64 0, .int .i64 0, .int .u8 0, .int .u8 0, .int .u8 0, .int .u8 0]) ?_ 0 _ rfl; (with_reducible repeat (first | apply bN | apply bD | apply bA)); exact BK253.out) k_ hk)); (case aO => exact (by (with_reducible repeat (first | apply rA | apply rN | apply rD)); exact Kd.R_mono (Kd.R_far (p := ⟨gb253, 6, none⟩) (Kd.R_far (p := ⟨gb253, 5, none⟩) (Kd.R_far (p := ⟨gb253, 4, none⟩) (Kd.R_far (p := ⟨gb253, 3, none⟩) (Kd.R_far (p := ⟨gb253, 2, none⟩) (Kd.R_far (p := ⟨gb253, 1, none⟩) (Kd.R_far (p := ⟨gb253, 0, none⟩) (Kd.R_mono HO_3.out (fun k_ hk => (⟨hk, hk.2⟩ : _ ∧ k_ ≠ gb253))) (fun _ hk => hk.2) (.int .i64 ((rd_T32 l0 x4_1).f0))) (fun _ hk => hk.2) (.int .i64 ((rd_T32 l0 x4_1).f1.f0))) (fun _ hk => hk.2) (.int .i64 ((rd_T32 l0 x4_1).f1.f1))) (fun _ hk => hk.2) (.int .u8 ((rd_T32 l0 x4_1).f2))) (fun _ hk => hk.2) (.int .u8 ((rd_T32 l0 x4_1).f3.f0))) (fun _ hk => hk.2) (.int .u8 ((rd_T32 l0 x4_1).f3.f1))) (fun _ hk => hk.2) (.int .u8 ((rd_T32 l0 x4_1).f3.f2))) (fun _ hk => hk.1.2))); (case aS => exact (below_size (by repeat (first | (with_reducible first | exact HB.out | apply lA | apply lN | apply lD | refine below_set ?_ GE253.out) | exact HB.out)))); (case aL => have := LMc13.out; omega); intro v266 w16 ho hb hg hat; rw [← Ny265.out] at ho; have n0_ := aS (blk_grown (g := gb253) (o := .cells #[.int .i64 ((rd_T32 l0 x4_1).f0), .int .i64 ((rd_T32 l0 x4_1).f1.f0), .int .i64 ((rd_T32 l0 x4_1).f1.f1), .int .u8 ((rd_T32 l0 x4_1).f2), .int .u8 ((rd_T32 l0 x4_1).f3.f0), .int .u8 ((rd_T32 l0 x4_1).f3.f1), .int .u8 ((rd_T32 l0 x4_1).f3.f2)] 32 (0, 0)) (by (with_reducible repeat (first | apply bN | apply bD | apply bA)); refine blk_put (cs := #[.int .i64 ((rd_T32 l0 x4_1).f0), .int .i64 ((rd_T32 l0 x4_1).f1.f0), .int .i64 ((rd_T32 l0 x4_1).f1.f1), .int .u8 ((rd_T32 l0 x4_1).f2), .int .u8 ((rd_T32 l0 x4_1).f3.f0), .int .u8 ((rd_T32 l0 x4_1).f3.f1), .int .u8 0]) ?_ 6 _ rfl; refine blk_put (cs := #[.int .i64 ((rd_T32 l0 x4_1).f0), .int .i64 ((rd_T32 l0 x4_1).f1.f0), .int .i64 ((rd_T32 l0 x4_1).f1.f1), .int .u8 ((rd_T32 l0 x4_1).f2), .int .u8 ((rd_T32 l0 x4_1).f3.f0), .int .u8 0, .int .u8 0]) ?_ 5 _ rfl; refine blk_put (cs := #[.int .i64 ((rd_T32 l0 x4_1).f0), .int .i64 ((rd_T32 l0 x4_1).f1.f0), .int .i64 ((rd_T32 l0 x4_1).f1.f1), .int .u8 ((rd_T32 l0 x4_1).f2), .int .u8 0, .int .u8 0, .int .u8 0]) ?_ 4 _ rfl; refine blk_put (cs := #[.int .i64 ((rd_T32 l0 x4_1).f0), .int .i64 ((rd_T32 l0 x4_1).f1.f0), .int .i64 ((rd_T32 l0 x4_1).f1.f1), .int .u8 0, .int .u8 0, .int .u8 0, .int .u8 0]) ?_ 3 _ rfl; refine blk_put (cs := #[.int .i64 ((rd_T32 l0 x4_1).f0), .int .i64 ((rd_T32 l0 x4_1).f1.f0), .int .i64 0, .int .u8 0, .int .u8 0, .int .u8 0, .int .u8 0]) ?_ 2 _ rfl; refine blk_put (cs := #[.int .i64 ((rd_T32 l0 x4_1).f0), .int .i64 0, .int .i64 0, .int .u8 0, .int .u8 0, .int .u8 0, .int .u8 0]) ?_ 1 _ rfl; refine blk_put (cs := #[.int .i64 0, .int .i64 0, .int .i64 0, .int .u8 0, .int .u8 0, .int .u8 0, .int .u8 0]) ?_ 0 _ rfl; (with_reducible repeat (first | apply bN | apply bD | apply bA)); exact BK253.out) hg (Kd.R_away HO_3.out (fun _ hk => hk.2))); have n1_ := aS (hb); have n2_ := aS (ho); clear BK253; clear HB; clear HO_3; have BK253 := n0_; have HB := n1_; have HO267 := n2_; clear n0_ n1_ n2_; clear ho hb hg hat))
              go_roundg k1
              case measure => have := HK1.out; omega
              case rel => exact ⟨(y265), (wrap64 (x4_1 + 1)), (by first | rfl | (simp; done) | (simp [*]; done)), H', ⟨by have := HK1.out; omega⟩, ⟨by (with_reducible repeat (first | apply rA | apply rN | apply rD)); exact Kd.R_mono HO267.out (fun _ hk => trivial)⟩, ⟨by repeat (first | (with_reducible first | exact HB.out | apply lA | apply lN | apply lD | refine below_set ?_ GE253.out) | exact HB.out)⟩⟩
            · rw [if_neg c13] at H
              exact absurd H (by simp)
        · rw [if_neg c3] at H
          exact absurd H (by simp)
      · rw [if_neg c2] at H
        have c2b0 : decide (x4_1 < (l0.length : Int)) = false := decide_eq_false c2
        clear c2
        obtain rfl := Option.some.inj H
        go_wp2
        go_ret
        exact ⟨_, by first | rfl | (simp <;> rfl) | (simp [*] <;> rfl), by (with_reducible repeat (first | apply rA | apply rN | apply rD)); exact HO_3.out, by repeat (first | (with_reducible first | exact HB.out | apply lA | apply lN | apply lD) | exact HB.out)⟩

end Go.Proofs.Ytblcmcdifgclcaa.PLineMakes
