/- GridPlays: what its proof leads to. No condition. -/
import Derived.Test.YtblcmcdifgclcaaGreatG13qGridPlays
import Derived.Test.YtblcmcdifgclcaaGreatG16qGridPlays
import Derived.Test.YtblcmcdifgclcaaGreatG17qGridPlays
import Derived.Test.YtblcmcdifgclcaaGreatG6qGridPlays
namespace Go.Proofs.YtblcmcdifgclcaaGreat.PGridPlays
open Go.RowKit Go.Proofs.YtblcmcdifgclcaaGreatW.PrintWords Go.Proofs.YtblcmcdifgclcaaGreatW.PrintLast Go.Proofs.YtblcmcdifgclcaaGreatW.PrintMore
attribute [local go_sem] isSome_setCell max2_int min2_int max_two min_two
set_option linter.unusedVariables false
set_option linter.unusedSimpArgs false
def prolepsisref05_Rest.f (a0_0 : Int) (a0_1 : Int) (a0_2 : Int) (a0_3 : Int) (a0_4 : Int) (a0_5 : Int) (a0_6 : Int) : Option (Int × Int × Int × Int × Int × Int × Int) := some (0, 0, 0, 0, a0_4, a0_5, a0_6)
set_option maxHeartbeats 8000000 in
set_option maxRecDepth 100000 in
theorem prolepsisref05_Rest.calls (a0_0 : Int) (a0_1 : Int) (a0_2 : Int) (a0_3 : Int) (a0_4 : Int) (a0_5 : Int) (a0_6 : Int) (r1 : Int) (r2 : Int) (r3 : Int) (r4 : Int) (r5 : Int) (r6 : Int) (r7 : Int) (w : World) (h : prolepsisref05_Rest.f a0_0 a0_1 a0_2 a0_3 a0_4 a0_5 a0_6 = some (r1, r2, r3, r4, r5, r6, r7)) :
 Calls Tryz.prog 93 #[.agg #[.int .i64 a0_0, .int .i64 a0_1, .int .i64 a0_2, .int .u8 a0_3, .int .u8 a0_4, .int .u8 a0_5, .int .u8 a0_6]] w fun e w' => e = .returned (.agg #[.int .i64 r1, .int .i64 r2, .int .i64 r3, .int .u8 r4, .int .u8 r5, .int .u8 r6, .int .u8 r7]) ∧ Below w.heap.size w w' := by
 have hu52 := Tryz.underlying52
 have hu50 := Tryz.underlying50
 have HB := aS (Below.refl w.heap.size w)
 have H : (some (0, 0, 0, 0, a0_4, a0_5, a0_6)) = some (r1, r2, r3, r4, r5, r6, r7) := h
 clear h
 simp only [Option.some.injEq, Prod.mk.injEq] at H
 obtain ⟨rfl, rfl, rfl, rfl, rfl, rfl, rfl⟩ := H
 go_enter Tryz.func93, Tryz.ntmps93
 go_wp2_with (first | (refine bx 1 #[.int .i64 a0_0, .int .i64 a0_1, .int .i64 a0_2, .int .u8 a0_3, .int .u8 a0_4, .int .u8 a0_5, .int .u8 a0_6] 52 ?_; intro gb307 hg w2 hbox hb; have BK307 := aS (hbox); have GW307 := aS (gw HB hg); have GE307 := aS (gw HB hg); replace HB := aS (below_step bB hb); clear hb hbox hg) | (refine bx 2 #[.int .i64 0, .int .i64 0, .int .i64 0, .int .u8 0, .int .u8 0, .int .u8 0, .int .u8 0] 52 ?_; intro gb308 hg w3 hbox hb; have BK308 := aS (hbox); have GW308 := aS (gw HB hg); have GE308 := aS (gw HB hg); replace HB := aS (below_step bS hb); have NB307_308 := aS ((by rw [hg]; exact Nat.ne_of_lt (blk_lt (kb BK307)) : gb307 ≠ gb308)); have NB308_307 := aS ((by rw [hg]; exact Nat.ne_of_gt (blk_lt (kb BK307)) : gb308 ≠ gb307)); replace BK307 := aS (blk_below (kb BK307) hb); clear hb hbox hg; have hnb4 := NB307_308.out; have hnc4 := NB308_307.out; have hz5 := cel7 BK307.out; have hz6 := cel7 BK308.out))
 refine bodyPost_ret (results_cell_row rfl _ _ gb308 52 #[.int .i64 0, .int .i64 0, .int .i64 0, .int .u8 0, .int .u8 a0_4, .int .u8 a0_5, .int .u8 a0_6] (0, 0) _ rfl (kp BK308) Tryz.underlying52 rfl (by kernel_rfl)) rfl ?_
 exact ⟨by first | rfl | (simp <;> rfl) | (simp [*] <;> rfl), bS⟩
def prolepsisref06_alone.f (l0 : List (S52)) (a1 : Int) : Option (Bool) := if 0 ≤ a1 then (if a1 < (l0.length : Int) then (if ((rd_T52 l0 a1).f2) = 2 then (if (wrap64 (a1 + 1)) = (l0.length : Int) then (some true) else (if 0 ≤ (wrap64 (a1 + 1)) then (if (wrap64 (a1 + 1)) < (l0.length : Int) then (some (((rd_T52 l0 (wrap64 (a1 + 1))).f2) != 0)) else (none)) else (none))) else (if ((rd_T52 l0 a1).f2) = 0 then (if a1 = 0 then (some true) else (if 0 ≤ (wrap64 (a1 - 1)) then (if (wrap64 (a1 - 1)) < (l0.length : Int) then (some (((rd_T52 l0 (wrap64 (a1 - 1))).f2) != 2)) else (none)) else (none))) else (some false))) else (none)) else (none)
set_option maxHeartbeats 8000000 in
set_option maxRecDepth 100000 in
theorem prolepsisref06_alone.calls (A0 : Option Addr) (c0 : Nat) (l0 : List (S52)) (a1 : Int) (r : Bool) (w : World) (hr0 : Kd.C k52 w A0 l0.length l0) (hc0 : l0.length ≤ c0) (h : prolepsisref06_alone.f l0 a1 = some r) :
 Calls Tryz.prog 85 #[.slice A0 l0.length c0, .int .i64 a1] w fun e w' => e = .returned (.bool r) ∧ Drawn0 w w' := by
 have HR0 := aS hr0
 have HC0 := aS hc0
 clear hr0 hc0
 have H : (if 0 ≤ a1 then (if a1 < (l0.length : Int) then (if ((rd_T52 l0 a1).f2) = 2 then (if (wrap64 (a1 + 1)) = (l0.length : Int) then (some true) else (if 0 ≤ (wrap64 (a1 + 1)) then (if (wrap64 (a1 + 1)) < (l0.length : Int) then (some (((rd_T52 l0 (wrap64 (a1 + 1))).f2) != 0)) else (none)) else (none))) else (if ((rd_T52 l0 a1).f2) = 0 then (if a1 = 0 then (some true) else (if 0 ≤ (wrap64 (a1 - 1)) then (if (wrap64 (a1 - 1)) < (l0.length : Int) then (some (((rd_T52 l0 (wrap64 (a1 - 1))).f2) != 2)) else (none)) else (none))) else (some false))) else (none)) else (none)) = some r := h
 clear h
 obtain ⟨c3, H⟩ := ifS H
 have c3b0 : decide (0 ≤ a1) = true := decide_eq_true c3
 clear c3
 obtain ⟨c4, H⟩ := ifS H
 have c4b0 : decide (a1 < (l0.length : Int)) = true := decide_eq_true c4
 clear c4
 by_cases c5 : ((rd_T52 l0 a1).f2) = 2
 ·rw [if_pos c5] at H
  have c5b0 : (((rd_T52 l0 a1).f2) == 2) = true := beq_iff_eq.mpr c5
  have c5b1 : (((rd_T52 l0 a1).f2) != 2) = false := bne_eq_false_iff_eq.mpr c5
  clear c5
  by_cases c6 : (wrap64 (a1 + 1)) = (l0.length : Int)
  ·rw [if_pos c6] at H
   have c6b0 : ((wrap64 (a1 + 1)) == (l0.length : Int)) = true := beq_iff_eq.mpr c6
   have c6b1 : ((wrap64 (a1 + 1)) != (l0.length : Int)) = false := bne_eq_false_iff_eq.mpr c6
   clear c6
   obtain rfl := Option.some.inj H
   have p309 : 0 ≤ (a1 : Int) := dA
   have q309 : a1 < (l0.length : Int) := dA
   obtain ⟨ad309, e309, hx309_0, hx309_1, hx309_2, hx309_3, hx309_4, hx309_5, hx309_6⟩ := at_T52 HR0.out a1 p309 q309
   cases e309
   replace p309 := eq_true p309
   replace q309 := eq_true q309
   go_enter Tryz.func85, Tryz.ntmps85
   go_wp2
   go_ret
   exact ⟨by first | rfl | (simp; done) | (simp [*]; done), by repeat (first | exact Drawn0.refl _ | apply Drawn0.step)⟩
  ·rw [if_neg c6] at H
   have c6b0 : ((wrap64 (a1 + 1)) == (l0.length : Int)) = false := beq_eq_false_iff_ne.mpr c6
   have c6b1 : ((wrap64 (a1 + 1)) != (l0.length : Int)) = true := bne_iff_ne.mpr c6
   obtain ⟨ji7, hji7⟩ : ∃ j_ : Int, (wrap64 (a1 + 1)) = j_ := ⟨_, rfl⟩
   replace H : (if 0 ≤ (ji7) then (if (ji7) < (l0.length : Int) then (some (((rd_T52 l0 (ji7)).f2) != 0)) else (none)) else (none)) = some r := by first | (rw [hji7] at H; exact H) | (simp only [hji7] at H ⊢; exact H)
   (try rw [hji7] at c6b0)
   (try rw [hji7] at c6b1)
   have hji7w : (IntKind.i64.wrap (a1 + 1)) = ji7 := (i64_w _).trans hji7
   obtain ⟨c8, H⟩ := ifS H
   have c8b0 : decide (0 ≤ (ji7)) = true := decide_eq_true c8
   clear c8
   obtain ⟨c9, H⟩ := ifS H
   have c9b0 : decide ((ji7) < (l0.length : Int)) = true := decide_eq_true c9
   clear c9
   obtain rfl := Option.some.inj H
   have p309 : 0 ≤ (a1 : Int) := dA
   have q309 : a1 < (l0.length : Int) := dA
   obtain ⟨ad309, e309, hx309_0, hx309_1, hx309_2, hx309_3, hx309_4, hx309_5, hx309_6⟩ := at_T52 HR0.out a1 p309 q309
   cases e309
   replace p309 := eq_true p309
   replace q309 := eq_true q309
   have p310 : 0 ≤ ((ji7) : Int) := dA
   have q310 : (ji7) < (l0.length : Int) := dA
   obtain ⟨ad310, e310, hx310_0, hx310_1, hx310_2, hx310_3, hx310_4, hx310_5, hx310_6⟩ := at_T52 HR0.out (ji7) p310 q310
   obtain rfl : ad309 = ad310 := (by injection e310)
   replace p310 := eq_true p310
   replace q310 := eq_true q310
   go_enter Tryz.func85, Tryz.ntmps85
   go_wp2
   go_ret
   exact ⟨by first | rfl | (simp; done) | (simp only [← hji7] <;> (first | rfl | simp)) | (simp [*]; done), by repeat (first | exact Drawn0.refl _ | apply Drawn0.step)⟩
 ·rw [if_neg c5] at H
  have c5b0 : (((rd_T52 l0 a1).f2) == 2) = false := beq_eq_false_iff_ne.mpr c5
  have c5b1 : (((rd_T52 l0 a1).f2) != 2) = true := bne_iff_ne.mpr c5
  by_cases c10 : ((rd_T52 l0 a1).f2) = 0
  ·rw [if_pos c10] at H
   have c10b0 : (((rd_T52 l0 a1).f2) == 0) = true := beq_iff_eq.mpr c10
   have c10b1 : (((rd_T52 l0 a1).f2) != 0) = false := bne_eq_false_iff_eq.mpr c10
   clear c10
   by_cases c11 : a1 = 0
   ·rw [if_pos c11] at H
    have c11b0 : (a1 == 0) = true := beq_iff_eq.mpr c11
    have c11b1 : (a1 != 0) = false := bne_eq_false_iff_eq.mpr c11
    clear c11
    obtain rfl := Option.some.inj H
    have p309 : 0 ≤ (a1 : Int) := dA
    have q309 : a1 < (l0.length : Int) := dA
    obtain ⟨ad309, e309, hx309_0, hx309_1, hx309_2, hx309_3, hx309_4, hx309_5, hx309_6⟩ := at_T52 HR0.out a1 p309 q309
    cases e309
    replace p309 := eq_true p309
    replace q309 := eq_true q309
    have p311 : 0 ≤ (a1 : Int) := dA
    have q311 : a1 < (l0.length : Int) := dA
    obtain ⟨ad311, e311, hx311_0, hx311_1, hx311_2, hx311_3, hx311_4, hx311_5, hx311_6⟩ := at_T52 HR0.out a1 p311 q311
    obtain rfl : ad309 = ad311 := (by injection e311)
    replace p311 := eq_true p311
    replace q311 := eq_true q311
    go_enter Tryz.func85, Tryz.ntmps85
    go_wp2
    go_ret
    exact ⟨by first | rfl | (simp; done) | (simp [*]; done), by repeat (first | exact Drawn0.refl _ | apply Drawn0.step)⟩
   ·rw [if_neg c11] at H
    have c11b0 : (a1 == 0) = false := beq_eq_false_iff_ne.mpr c11
    have c11b1 : (a1 != 0) = true := bne_iff_ne.mpr c11
    obtain ⟨ji12, hji12⟩ : ∃ j_ : Int, (wrap64 (a1 - 1)) = j_ := ⟨_, rfl⟩
    replace H : (if 0 ≤ (ji12) then (if (ji12) < (l0.length : Int) then (some (((rd_T52 l0 (ji12)).f2) != 2)) else (none)) else (none)) = some r := by first | (rw [hji12] at H; exact H) | (simp only [hji12] at H ⊢; exact H)
    have hji12w : (IntKind.i64.wrap (a1 - 1)) = ji12 := (i64_w _).trans hji12
    obtain ⟨c13, H⟩ := ifS H
    have c13b0 : decide (0 ≤ (ji12)) = true := decide_eq_true c13
    clear c13
    obtain ⟨c14, H⟩ := ifS H
    have c14b0 : decide ((ji12) < (l0.length : Int)) = true := decide_eq_true c14
    clear c14
    obtain rfl := Option.some.inj H
    have p309 : 0 ≤ (a1 : Int) := dA
    have q309 : a1 < (l0.length : Int) := dA
    obtain ⟨ad309, e309, hx309_0, hx309_1, hx309_2, hx309_3, hx309_4, hx309_5, hx309_6⟩ := at_T52 HR0.out a1 p309 q309
    cases e309
    replace p309 := eq_true p309
    replace q309 := eq_true q309
    have p311 : 0 ≤ (a1 : Int) := dA
    have q311 : a1 < (l0.length : Int) := dA
    obtain ⟨ad311, e311, hx311_0, hx311_1, hx311_2, hx311_3, hx311_4, hx311_5, hx311_6⟩ := at_T52 HR0.out a1 p311 q311
    obtain rfl : ad309 = ad311 := (by injection e311)
    replace p311 := eq_true p311
    replace q311 := eq_true q311
    have p312 : 0 ≤ ((ji12) : Int) := dA
    have q312 : (ji12) < (l0.length : Int) := dA
    obtain ⟨ad312, e312, hx312_0, hx312_1, hx312_2, hx312_3, hx312_4, hx312_5, hx312_6⟩ := at_T52 HR0.out (ji12) p312 q312
    obtain rfl : ad309 = ad312 := (by injection e312)
    replace p312 := eq_true p312
    replace q312 := eq_true q312
    go_enter Tryz.func85, Tryz.ntmps85
    go_wp2
    go_ret
    exact ⟨by first | rfl | (simp; done) | (simp only [← hji12] <;> (first | rfl | simp)) | (simp [*]; done), by repeat (first | exact Drawn0.refl _ | apply Drawn0.step)⟩
  ·rw [if_neg c10] at H
   have c10b0 : (((rd_T52 l0 a1).f2) == 0) = false := beq_eq_false_iff_ne.mpr c10
   have c10b1 : (((rd_T52 l0 a1).f2) != 0) = true := bne_iff_ne.mpr c10
   obtain rfl := Option.some.inj H
   have p309 : 0 ≤ (a1 : Int) := dA
   have q309 : a1 < (l0.length : Int) := dA
   obtain ⟨ad309, e309, hx309_0, hx309_1, hx309_2, hx309_3, hx309_4, hx309_5, hx309_6⟩ := at_T52 HR0.out a1 p309 q309
   cases e309
   replace p309 := eq_true p309
   replace q309 := eq_true q309
   have p311 : 0 ≤ (a1 : Int) := dA
   have q311 : a1 < (l0.length : Int) := dA
   obtain ⟨ad311, e311, hx311_0, hx311_1, hx311_2, hx311_3, hx311_4, hx311_5, hx311_6⟩ := at_T52 HR0.out a1 p311 q311
   obtain rfl : ad309 = ad311 := (by injection e311)
   replace p311 := eq_true p311
   replace q311 := eq_true q311
   go_enter Tryz.func85, Tryz.ntmps85
   go_wp2
   go_ret
   exact ⟨by first | rfl | (simp; done) | (simp [*]; done), by repeat (first | exact Drawn0.refl _ | apply Drawn0.step)⟩
def prolepsisref06_Mend.l0 : Nat → List (S52) → List (S52) → Int → Option ((List (S52)))
 | 0, _, _, _ => none
 | k + 1, x0, x3, x4 => if x4 < (x0.length : Int) then (if 0 ≤ x4 then ((prolepsisref06_alone.f x0 x4).bind fun t315 => (if t315 = true then ((prolepsisref05_Blank.f ((rd_T52 x0 x4).f3.f0) ((rd_T52 x0 x4).f3.f1) ((rd_T52 x0 x4).f3.f2)).bind fun bt316 => (if x3.length < 4398046511104 then (prolepsisref06_Mend.l0 k x0 (x3 ++ [(⟨bt316.1, (⟨bt316.2.1, bt316.2.2.1⟩ : S49), bt316.2.2.2.1, (⟨bt316.2.2.2.2.1, bt316.2.2.2.2.2.1, bt316.2.2.2.2.2.2⟩ : S50)⟩ : S52)]) (wrap64 (x4 + 1))) else (none))) else (if x3.length < 4398046511104 then (prolepsisref06_Mend.l0 k x0 (x3 ++ [(⟨(rd_T52 x0 x4).f0, (⟨(rd_T52 x0 x4).f1.f0, (rd_T52 x0 x4).f1.f1⟩ : S49), (rd_T52 x0 x4).f2, (⟨(rd_T52 x0 x4).f3.f0, (rd_T52 x0 x4).f3.f1, (rd_T52 x0 x4).f3.f2⟩ : S50)⟩ : S52)]) (wrap64 (x4 + 1))) else (none)))) else (none)) else (some x3)
def prolepsisref06_Mend.f (k : Nat) (l0 : List (S52)) : Option ((List (S52))) := prolepsisref06_Mend.l0 k l0 ([] : List (S52)) 0
set_option maxHeartbeats 8000000 in
set_option maxRecDepth 100000 in
theorem prolepsisref06_Mend.calls (k : Nat) (A0 : Option Addr) (c0 : Nat) (l0 : List (S52)) (r : List (S52)) (w : World) (hr0 : Kd.C k52 w A0 l0.length l0) (hc0 : l0.length ≤ c0) (h : prolepsisref06_Mend.f k l0 = some r) :
 Calls Tryz.prog 94 #[.slice A0 l0.length c0] w fun e w' => ∃ v0_ : Value, e = .returned (v0_) ∧ Kd.R k52 52 w' w.heap.size (fun _ => True) v0_ r ∧ Below w.heap.size w w' := by
 have hu52 := Tryz.underlying52
 have hu50 := Tryz.underlying50
 have HR0 := aS hr0
 have HC0 := aS hc0
 clear hr0 hc0
 have HB := aS (Below.refl w.heap.size w)
 have H : (prolepsisref06_Mend.l0 k l0 ([] : List (S52)) 0) = some r := h
 clear h
 have H' := aS H
 clear H
 go_enter Tryz.func94, Tryz.ntmps94
 go_wp2
 go_loopg [3, 4] k (fun kq v3 v4 w' => ∃ (x3_1 : List (S52)) (x4_1 : Int), v4 = .int .i64 x4_1 ∧ Aside0 (prolepsisref06_Mend.l0 kq l0 x3_1 x4_1 = some r) ∧ Aside0 (kq ≤ k) ∧ Aside0 (Kd.R k52 52 w' w.heap.size (fun _ => True) v3 x3_1) ∧ Aside0 (Below w.heap.size w w'))
 case atStart => exact ⟨(([] : List (S52))), (0), fS, H', ⟨Nat.le_refl _⟩, ⟨by first | exact Kd.R_nil _ _ _ _ _ | exact Kd.N_nil _ _ _ _ _ | exact Kd.V_nil _ _ _ _ _ | exact Kd.Q_nil _ _ _ _ _ | exact Kd.S_nil _ _ _ _ _⟩, ⟨bB⟩⟩
 case round =>
  clear H'
  obtain ⟨x3_1, x4_1, rfl, HA, HK1, HO_3, HB⟩ := hrel
  cases gk with
  | zero => exact absurd HA.out (by simp [prolepsisref06_Mend.l0])
  | succ k1 =>
   have H := HA.out
   clear HA
   simp only [prolepsisref06_Mend.l0] at H
   by_cases c2 : x4_1 < (l0.length : Int)
   ·rw [if_pos c2] at H
    have c2b0 : decide (x4_1 < (l0.length : Int)) = true := decide_eq_true c2
    clear c2
    obtain ⟨c3, H⟩ := ifS H
    have c3b0 : decide (0 ≤ x4_1) = true := decide_eq_true c3
    clear c3
    replace H := Option.bind_eq_some_iff.mp H
    obtain ⟨t315, A40, H⟩ := H
    try dsimp only at H
    have A4 := aS A40
    clear A40
    by_cases c5 : t315 = true
    ·subst c5
     have H1 : ((prolepsisref05_Blank.f ((rd_T52 l0 x4_1).f3.f0) ((rd_T52 l0 x4_1).f3.f1) ((rd_T52 l0 x4_1).f3.f2)).bind fun bt316 => (if x3_1.length < 4398046511104 then (prolepsisref06_Mend.l0 k1 l0 (x3_1 ++ [(⟨bt316.1, (⟨bt316.2.1, bt316.2.2.1⟩ : S49), bt316.2.2.2.1, (⟨bt316.2.2.2.2.1, bt316.2.2.2.2.2.1, bt316.2.2.2.2.2.2⟩ : S50)⟩ : S52)]) (wrap64 (x4_1 + 1))) else (none))) = some r := by rw [if_pos rfl] at H; exact H
     clear H
     have H := H1
     clear H1
     replace H := Option.bind_eq_some_iff.mp H
     obtain ⟨⟨t316, t317, t318, t319, t320, t321, t322⟩, A60, H⟩ := H
     try dsimp only at H
     have A6 := aS A60
     clear A60
     obtain ⟨c7, H⟩ := ifS H
     have LMc7 := aS c7
     clear c7
     obtain ⟨y323, hy323⟩ : ∃ y_ : List (S52), y_ = (x3_1 ++ [(⟨t316, (⟨t317, t318⟩ : S49), t319, (⟨t320, t321, t322⟩ : S50)⟩ : S52)]) := ⟨_, rfl⟩
     replace H : (prolepsisref06_Mend.l0 k1 l0 y323 (wrap64 (x4_1 + 1))) = some r := rq hy323 H
     have Ny323 := aS hy323
     clear hy323
     have H' := aS H
     clear H
     have p313 : 0 ≤ (x4_1 : Int) := dA
     have q313 : x4_1 < (l0.length : Int) := dA
     obtain ⟨ad313, e313, hx313_0, hx313_1, hx313_2, hx313_3, hx313_4, hx313_5, hx313_6⟩ := at_T52 HR0.out x4_1 p313 q313
     cases e313
     replace hx313_0 := xc HB hx313_0
     replace hx313_1 := xc HB hx313_1
     replace hx313_2 := xc HB hx313_2
     replace hx313_3 := xc HB hx313_3
     replace hx313_4 := xc HB hx313_4
     replace hx313_5 := xc HB hx313_5
     replace hx313_6 := xc HB hx313_6
     replace p313 := eq_true p313
     replace q313 := eq_true q313
     go_wp2_with (first | (refine bx 5 #[.int .i64 0, .int .i64 0, .int .i64 0, .int .u8 0, .int .u8 0, .int .u8 0, .int .u8 0] 52 ?_; intro gb314 hg w8 hbox hb; replace HO_3 := aS (Kd.R_below (Kd.R_elderB (rr HO_3) gb314 (Nat.le_of_eq hg.symm)) hb); have BK314 := aS (hbox); have GW314 := aS (gw HB hg); have GE314 := aS (gw HB hg); replace HB := aS (below_step bB hb); clear hb hbox hg; have hz9 := cel7 BK314.out) | (refine gL 85 18 Tryz.func85 #[.slice (some ad313) l0.length c0, .int .i64 x4_1] ?_; (with_reducible refine (prolepsisref06_alone.calls _ _ l0 x4_1 true _ ?side1 ?side2 A4.out).mono ?_); (case side1 => exact Kd.C_below HR0.out bS); (case side2 => exact HC0.out); rintro e w' ⟨rfl, ⟨nd, rfl⟩⟩; refine ⟨_, rfl, ?_⟩) | (refine gL 64 21 Tryz.func64 #[.agg #[.int .u8 ((rd_T52 l0 x4_1).f3.f0), .int .u8 ((rd_T52 l0 x4_1).f3.f1), .int .u8 ((rd_T52 l0 x4_1).f3.f2)]] ?_; (with_reducible refine (prolepsisref05_Blank.calls ((rd_T52 l0 x4_1).f3.f0) ((rd_T52 l0 x4_1).f3.f1) ((rd_T52 l0 x4_1).f3.f2) t316 t317 t318 t319 t320 t321 t322 _ A6.out).mono ?_); rintro e w10 ⟨rfl, hb⟩; refine ⟨_, rfl, ?_⟩; replace HO_3 := aS (Kd.R_below (by (with_reducible repeat (first | apply rA | apply rN | apply rD)); exact (Kd.R_mono (rK (Kd.R_mono HO_3.out (fun k_ hk => (⟨hk, hk.2⟩ : _ ∧ k_ ≠ gb314)))) (fun _ h_ => h_.1))) hb); replace BK314 := aS (blk_below (g := gb314) (o := .cells #[.int .i64 ((rd_T52 l0 x4_1).f0), .int .i64 ((rd_T52 l0 x4_1).f1.f0), .int .i64 ((rd_T52 l0 x4_1).f1.f1), .int .u8 ((rd_T52 l0 x4_1).f2), .int .u8 ((rd_T52 l0 x4_1).f3.f0), .int .u8 ((rd_T52 l0 x4_1).f3.f1), .int .u8 ((rd_T52 l0 x4_1).f3.f2)] 52 (0, 0)) (kp BK314) hb); replace HB := aS (below_step bS hb); (try clear hb); (try clear hb2); (try clear hk); (try clear hi); have hz11 := cel7 BK314.out) | ((with_reducible refine gate_builtin (b := .append) (xs := #[.tmp 22, .tmp 24]) rfl ?_); at_builtin; refine Kd.R_append k52 (w0 := w) w.heap.size rfl (.tmp 22) (.tmp 24) 72 52 (.agg #[(.int .i64 0), (.int .i64 0), (.int .i64 0), (.int .u8 0), (.int .u8 0), (.int .u8 0), (.int .u8 0)]) 32 rfl Tryz.underlying72 info52 rfl (by decide) (by omega) u3 x3_1 (⟨t316, (⟨t317, t318⟩ : S49), t319, (⟨t320, t321, t322⟩ : S50)⟩ : S52) [.int .i64 t316, .int .i64 t317, .int .i64 t318, .int .u8 t319, .int .u8 t320, .int .u8 t321, .int .u8 t322] (fun k_ => k_ ≠ gb314) (fun _ => False) rfl (by first | (go_simp; done) | (go_simp; rfl)) ?aP (fun _ hk => hk.elim) ?aF ?aO ?aB ?aS ?aL ?_; (case aP => exact k52_mkM _ _ _ (⟨t316, (⟨t317, t318⟩ : S49), t319, (⟨t320, t321, t322⟩ : S50)⟩ : S52)); (case aB => exact bS); (case aF => exact (fun k_ hk => Kd.freshB (g := gb314) (o := .cells #[.int .i64 t316, .int .i64 t317, .int .i64 t318, .int .u8 t319, .int .u8 t320, .int .u8 t321, .int .u8 t322] 52 (0, 0)) (kp BK314) k_ hk)); (case aO => exact (by (with_reducible repeat (first | apply rA | apply rN | apply rD)); exact Kd.R_mono (rK (Kd.R_mono HO_3.out (fun k_ hk => (⟨hk, hk.2⟩ : _ ∧ k_ ≠ gb314)))) (fun _ hk => hk.1.2))); (case aS => exact (below_size bS)); (case aL => have := LMc7.out; omega); intro v324 w12 ho hb hg hat; rw [← Ny323.out] at ho; replace BK314 := aS (blk_grown (g := gb314) (o := .cells #[.int .i64 t316, .int .i64 t317, .int .i64 t318, .int .u8 t319, .int .u8 t320, .int .u8 t321, .int .u8 t322] 52 (0, 0)) (kp BK314) hg (Kd.R_away HO_3.out (fun _ hk => hk.2))); replace HB := aS (hb); have HO325 := aS (ho); clear HO_3; clear ho hb hg hat))
     go_roundg k1
     case measure => have := HK1.out; omega
     case rel => exact ⟨(y323), (wrap64 (x4_1 + 1)), fS, H', ⟨by have := HK1.out; omega⟩, ⟨by (with_reducible repeat (first | apply rA | apply rN | apply rD)); exact Kd.R_mono HO325.out (fun _ hk => trivial)⟩, ⟨bS⟩⟩
    ·replace c5 := Bool.eq_false_iff.mpr c5
     subst c5
     have H1 : (if x3_1.length < 4398046511104 then (prolepsisref06_Mend.l0 k1 l0 (x3_1 ++ [(⟨(rd_T52 l0 x4_1).f0, (⟨(rd_T52 l0 x4_1).f1.f0, (rd_T52 l0 x4_1).f1.f1⟩ : S49), (rd_T52 l0 x4_1).f2, (⟨(rd_T52 l0 x4_1).f3.f0, (rd_T52 l0 x4_1).f3.f1, (rd_T52 l0 x4_1).f3.f2⟩ : S50)⟩ : S52)]) (wrap64 (x4_1 + 1))) else (none)) = some r := by rw [if_neg (show ¬ (false = true) by decide)] at H; exact H
     clear H
     have H := H1
     clear H1
     obtain ⟨c13, H⟩ := ifS H
     have LMc13 := aS c13
     clear c13
     obtain ⟨y326, hy326⟩ : ∃ y_ : List (S52), y_ = (x3_1 ++ [(⟨(rd_T52 l0 x4_1).f0, (⟨(rd_T52 l0 x4_1).f1.f0, (rd_T52 l0 x4_1).f1.f1⟩ : S49), (rd_T52 l0 x4_1).f2, (⟨(rd_T52 l0 x4_1).f3.f0, (rd_T52 l0 x4_1).f3.f1, (rd_T52 l0 x4_1).f3.f2⟩ : S50)⟩ : S52)]) := ⟨_, rfl⟩
     replace H : (prolepsisref06_Mend.l0 k1 l0 y326 (wrap64 (x4_1 + 1))) = some r := rq hy326 H
     have Ny326 := aS hy326
     clear hy326
     have H' := aS H
     clear H
     have p313 : 0 ≤ (x4_1 : Int) := dA
     have q313 : x4_1 < (l0.length : Int) := dA
     obtain ⟨ad313, e313, hx313_0, hx313_1, hx313_2, hx313_3, hx313_4, hx313_5, hx313_6⟩ := at_T52 HR0.out x4_1 p313 q313
     cases e313
     replace hx313_0 := xc HB hx313_0
     replace hx313_1 := xc HB hx313_1
     replace hx313_2 := xc HB hx313_2
     replace hx313_3 := xc HB hx313_3
     replace hx313_4 := xc HB hx313_4
     replace hx313_5 := xc HB hx313_5
     replace hx313_6 := xc HB hx313_6
     replace p313 := eq_true p313
     replace q313 := eq_true q313
     go_wp2_with (first | (refine bx 5 #[.int .i64 0, .int .i64 0, .int .i64 0, .int .u8 0, .int .u8 0, .int .u8 0, .int .u8 0] 52 ?_; intro gb314 hg w14 hbox hb; replace HO_3 := aS (Kd.R_below (Kd.R_elderB (rr HO_3) gb314 (Nat.le_of_eq hg.symm)) hb); have BK314 := aS (hbox); have GW314 := aS (gw HB hg); have GE314 := aS (gw HB hg); replace HB := aS (below_step bB hb); clear hb hbox hg; have hz15 := cel7 BK314.out) | (refine gL 85 18 Tryz.func85 #[.slice (some ad313) l0.length c0, .int .i64 x4_1] ?_; (with_reducible refine (prolepsisref06_alone.calls _ _ l0 x4_1 false _ ?side1 ?side2 A4.out).mono ?_); (case side1 => exact Kd.C_below HR0.out bS); (case side2 => exact HC0.out); rintro e w' ⟨rfl, ⟨nd, rfl⟩⟩; refine ⟨_, rfl, ?_⟩) | ((with_reducible refine gate_builtin (b := .append) (xs := #[.tmp 22, .tmp 24]) rfl ?_); at_builtin; refine Kd.R_append k52 (w0 := w) w.heap.size rfl (.tmp 22) (.tmp 24) 72 52 (.agg #[(.int .i64 0), (.int .i64 0), (.int .i64 0), (.int .u8 0), (.int .u8 0), (.int .u8 0), (.int .u8 0)]) 32 rfl Tryz.underlying72 info52 rfl (by decide) (by omega) u3 x3_1 (⟨(rd_T52 l0 x4_1).f0, (⟨(rd_T52 l0 x4_1).f1.f0, (rd_T52 l0 x4_1).f1.f1⟩ : S49), (rd_T52 l0 x4_1).f2, (⟨(rd_T52 l0 x4_1).f3.f0, (rd_T52 l0 x4_1).f3.f1, (rd_T52 l0 x4_1).f3.f2⟩ : S50)⟩ : S52) [.int .i64 ((rd_T52 l0 x4_1).f0), .int .i64 ((rd_T52 l0 x4_1).f1.f0), .int .i64 ((rd_T52 l0 x4_1).f1.f1), .int .u8 ((rd_T52 l0 x4_1).f2), .int .u8 ((rd_T52 l0 x4_1).f3.f0), .int .u8 ((rd_T52 l0 x4_1).f3.f1), .int .u8 ((rd_T52 l0 x4_1).f3.f2)] (fun k_ => k_ ≠ gb314) (fun _ => False) rfl (by first | (go_simp; done) | (go_simp; rfl)) ?aP (fun _ hk => hk.elim) ?aF ?aO ?aB ?aS ?aL ?_; (case aP => exact k52_mkM _ _ _ (⟨(rd_T52 l0 x4_1).f0, (⟨(rd_T52 l0 x4_1).f1.f0, (rd_T52 l0 x4_1).f1.f1⟩ : S49), (rd_T52 l0 x4_1).f2, (⟨(rd_T52 l0 x4_1).f3.f0, (rd_T52 l0 x4_1).f3.f1, (rd_T52 l0 x4_1).f3.f2⟩ : S50)⟩ : S52)); (case aB => exact bS); (case aF => exact (fun k_ hk => Kd.freshB (g := gb314) (o := .cells #[.int .i64 ((rd_T52 l0 x4_1).f0), .int .i64 ((rd_T52 l0 x4_1).f1.f0), .int .i64 ((rd_T52 l0 x4_1).f1.f1), .int .u8 ((rd_T52 l0 x4_1).f2), .int .u8 ((rd_T52 l0 x4_1).f3.f0), .int .u8 ((rd_T52 l0 x4_1).f3.f1), .int .u8 ((rd_T52 l0 x4_1).f3.f2)] 52 (0, 0)) (kp BK314) k_ hk)); (case aO => exact (by (with_reducible repeat (first | apply rA | apply rN | apply rD)); exact Kd.R_mono (rK (Kd.R_mono HO_3.out (fun k_ hk => (⟨hk, hk.2⟩ : _ ∧ k_ ≠ gb314)))) (fun _ hk => hk.1.2))); (case aS => exact (below_size bS)); (case aL => have := LMc13.out; omega); intro v327 w16 ho hb hg hat; rw [← Ny326.out] at ho; replace BK314 := aS (blk_grown (g := gb314) (o := .cells #[.int .i64 ((rd_T52 l0 x4_1).f0), .int .i64 ((rd_T52 l0 x4_1).f1.f0), .int .i64 ((rd_T52 l0 x4_1).f1.f1), .int .u8 ((rd_T52 l0 x4_1).f2), .int .u8 ((rd_T52 l0 x4_1).f3.f0), .int .u8 ((rd_T52 l0 x4_1).f3.f1), .int .u8 ((rd_T52 l0 x4_1).f3.f2)] 52 (0, 0)) (kp BK314) hg (Kd.R_away HO_3.out (fun _ hk => hk.2))); replace HB := aS (hb); have HO328 := aS (ho); clear HO_3; clear ho hb hg hat))
     go_roundg k1
     case measure => have := HK1.out; omega
     case rel => exact ⟨(y326), (wrap64 (x4_1 + 1)), fS, H', ⟨by have := HK1.out; omega⟩, ⟨by (with_reducible repeat (first | apply rA | apply rN | apply rD)); exact Kd.R_mono HO328.out (fun _ hk => trivial)⟩, ⟨bS⟩⟩
   ·rw [if_neg c2] at H
    have c2b0 : decide (x4_1 < (l0.length : Int)) = false := decide_eq_false c2
    clear c2
    obtain rfl := Option.some.inj H
    go_wp2
    go_ret
    exact ⟨_, by first | rfl | (simp <;> rfl) | (simp [*] <;> rfl), rr HO_3, bB⟩
def prolepsisref07_with.l0 : Nat → Int → List (S52) → List (List (S52)) → Int → List (List (S52)) → Int → Int → Option ((List (List (S52))) × Int × Int)
 | 0, _, _, _, _, _, _, _ => none
 | k + 1, x1, x2, x7, x8, x330000, x330001, x330002 => if x8 < (x330000.length : Int) then (if x8 = x1 then ((some (([] : List (S52)) : List (S52))).bind fun y331 => (if y331.length + x2.length < 4398046511104 then (if x7.length < 5864062014805 then (prolepsisref07_with.l0 k x1 x2 (x7 ++ [(y331 ++ x2)]) (wrap64 (x8 + 1)) x330000 x330001 x330002) else (none)) else (none))) else (if 0 ≤ x8 then (if x7.length < 5864062014805 then (prolepsisref07_with.l0 k x1 x2 (x7 ++ [rd_L9 x330000 x8]) (wrap64 (x8 + 1)) x330000 x330001 x330002) else (none)) else (none))) else (some (x7, x330001, x330002))
def prolepsisref07_with.f (k : Nat) (l0_0 : List (List (S52))) (a0_1 : Int) (a0_2 : Int) (a1 : Int) (l2 : List (S52)) : Option ((List (List (S52))) × Int × Int) := prolepsisref07_with.l0 k a1 l2 ([] : List (List (S52))) 0 l0_0 a0_1 a0_2
set_option maxHeartbeats 8000000 in
set_option maxRecDepth 100000 in
theorem prolepsisref07_with.calls (k : Nat) (P0_0_ : Nat → Prop) (A0_0 : Option Addr) (c0_0 : Nat) (l0_0 : List (List (S52))) (a0_1 : Int) (a0_2 : Int) (a1 : Int) (A2 : Option Addr) (c2 : Nat) (l2 : List (S52)) (r1 : List (List (S52))) (r2 : Int) (r3 : Int) (w : World) (hs0_0 : Kd.V (Kd.slice 52 k52) 72 w w.heap.size (fun k_ => P0_0_ k_) (.slice A0_0 l0_0.length c0_0) l0_0) (hr2 : Kd.C k52 w A2 l2.length l2) (hc2 : l2.length ≤ c2) (h : prolepsisref07_with.f k l0_0 a0_1 a0_2 a1 l2 = some (r1, r2, r3)) :
 Calls Tryz.prog 66 #[.agg #[.slice A0_0 l0_0.length c0_0, .int .i64 a0_1, .int .i64 a0_2], .int .i64 a1, .slice A2 l2.length c2] w fun e w' => ∃ v0_ : Value, e = .returned (.agg #[v0_, .int .i64 r2, .int .i64 r3]) ∧ Kd.N (Kd.slice 52 k52) 72 w' w.heap.size (fun k_ => (P0_0_ k_ ∨ w.heap.size ≤ k_)) v0_ r1 ∧ Below w.heap.size w w' := by
 have hu32 := Tryz.underlying32
 have HO0_0 := aS (show Kd.V (Kd.slice 52 k52) 72 w w.heap.size (fun k_ => (P0_0_ k_ ∨ w.heap.size ≤ k_)) (.slice A0_0 l0_0.length c0_0) l0_0 from Kd.V_mono hs0_0 (fun k_ hk => .inl hk))
 have HR2 := aS hr2
 have HC2 := aS hc2
 clear hr2 hc2
 have HB := aS (Below.refl w.heap.size w)
 have H : (prolepsisref07_with.l0 k a1 l2 ([] : List (List (S52))) 0 l0_0 a0_1 a0_2) = some (r1, r2, r3) := h
 clear h
 have H' := aS H
 clear H
 go_enter Tryz.func66, Tryz.ntmps66
 go_wp2_with (first | (refine bx 3 #[.slice A0_0 l0_0.length c0_0, .int .i64 a0_1, .int .i64 a0_2] 32 ?_; intro gb329 hg w4 hbox hb; replace HO0_0 := aS (Kd.V_below (Kd.V_elderB (rv HO0_0) gb329 (Nat.le_of_eq hg.symm)) hb); have BK329 := aS (hbox); have GW329 := aS (gw HB hg); have GE329 := aS (gw HB hg); replace HB := aS (below_step bB hb); clear hb hbox hg) | (refine bx 6 #[.slice none 0 0, .int .i64 0, .int .i64 0] 32 ?_; intro gb330 hg w5 hbox hb; replace HO0_0 := aS (Kd.V_below (Kd.V_elderB (rv HO0_0) gb330 (Nat.le_of_eq hg.symm)) hb); have BK330 := aS (hbox); have GW330 := aS (gw HB hg); have GE330 := aS (gw HB hg); replace HB := aS (below_step bS hb); have NB329_330 := aS ((by rw [hg]; exact Nat.ne_of_lt (blk_lt (kb BK329)) : gb329 ≠ gb330)); have NB330_329 := aS ((by rw [hg]; exact Nat.ne_of_gt (blk_lt (kb BK329)) : gb330 ≠ gb329)); replace BK329 := aS (blk_below (kb BK329) hb); clear hb hbox hg))
 go_loopg [7, 8] k (fun kq v7 v8 w' => ∃ (x7_1 : List (List (S52))) (x8_1 : Int), v8 = .int .i64 x8_1 ∧ Aside0 (prolepsisref07_with.l0 kq a1 l2 x7_1 x8_1 l0_0 a0_1 a0_2 = some (r1, r2, r3)) ∧ Aside0 (kq ≤ k) ∧ Aside0 (Kd.N (Kd.slice 52 k52) 72 w' w.heap.size (fun k_ => (P0_0_ k_ ∨ w.heap.size ≤ k_) ∧ k_ ≠ gb329 ∧ k_ ≠ gb330) v7 x7_1) ∧ Aside0 (Kd.V (Kd.slice 52 k52) 72 w' w.heap.size (fun k_ => (P0_0_ k_ ∨ w.heap.size ≤ k_) ∧ some k_ ≠ (v7 : Value).ownBlock ∧ k_ ≠ gb329 ∧ k_ ≠ gb330) (.slice A0_0 l0_0.length c0_0) l0_0) ∧ Aside0 (w'.heap[gb329]? = some (.cells #[(.slice A0_0 l0_0.length c0_0), .int .i64 a0_1, .int .i64 a0_2] 32 (0, 0))) ∧ Aside0 (w'.heap[gb330]? = some (.cells #[(.slice none 0 0), .int .i64 0, .int .i64 0] 32 (0, 0))) ∧ Aside0 (Below w.heap.size w w'))
 case atStart => exact ⟨(([] : List (List (S52)))), (0), fS, H', ⟨Nat.le_refl _⟩, ⟨by first | exact Kd.S_nil _ _ _ _ _ | exact Kd.N_nil _ _ _ _ _ | exact Kd.V_nil _ _ _ _ _ | exact Kd.Q_nil _ _ _ _ _ | exact Kd.R_nil _ _ _ _ _⟩, ⟨by (with_reducible repeat (first | apply Kd.V_alloc | apply Kd.V_drewN | apply Kd.V_drew)); exact Kd.V_mono HO0_0.out (fun _ hk => ⟨hk.1.1, ⟨(by simp [Value.ownBlock]), ⟨hk.1.2, hk.2⟩⟩⟩)⟩, ⟨kb BK329⟩, ⟨kb BK330⟩, ⟨bS⟩⟩
 case round =>
  clear H'
  try clear c2
  try clear p2
  obtain ⟨x7_1, x8_1, rfl, HA, HK1, HO_7, HO_330000, BK329, BK330, HB⟩ := hrel
  cases gk with
  | zero => exact absurd HA.out (by simp [prolepsisref07_with.l0])
  | succ k1 =>
   have H := HA.out
   clear HA
   simp only [prolepsisref07_with.l0] at H
   by_cases c6 : x8_1 < (l0_0.length : Int)
   ·rw [if_pos c6] at H
    have c6b0 : decide (x8_1 < (l0_0.length : Int)) = true := decide_eq_true c6
    clear c6
    by_cases c7 : x8_1 = a1
    ·rw [if_pos c7] at H
     have c7b0 : (x8_1 == a1) = true := beq_iff_eq.mpr c7
     have c7b1 : (x8_1 != a1) = false := bne_eq_false_iff_eq.mpr c7
     clear c7
     obtain ⟨y331, hy331⟩ : ∃ y_ : List (S52), y_ = (([] : List (S52))) := ⟨_, rfl⟩
     replace H : (if y331.length + l2.length < 4398046511104 then (if x7_1.length < 5864062014805 then (prolepsisref07_with.l0 k1 a1 l2 (x7_1 ++ [(y331 ++ l2)]) (wrap64 (x8_1 + 1)) l0_0 a0_1 a0_2) else (none)) else (none)) = some (r1, r2, r3) := rq hy331 H
     have Ny331 := aS hy331
     clear hy331
     obtain ⟨c8, H⟩ := ifS H
     have LMc8 := aS c8
     clear c8
     obtain ⟨y334, hy334⟩ : ∃ y_ : List (S52), y_ = (y331 ++ l2) := ⟨_, rfl⟩
     replace H : (if x7_1.length < 5864062014805 then (prolepsisref07_with.l0 k1 a1 l2 (x7_1 ++ [y334]) (wrap64 (x8_1 + 1)) l0_0 a0_1 a0_2) else (none)) = some (r1, r2, r3) := rq hy334 H
     have Ny334 := aS hy334
     clear hy334
     obtain ⟨c9, H⟩ := ifS H
     have LMc9 := aS c9
     clear c9
     obtain ⟨y337, hy337⟩ : ∃ y_ : List (List (S52)), y_ = (x7_1 ++ [y334]) := ⟨_, rfl⟩
     replace H : (prolepsisref07_with.l0 k1 a1 l2 y337 (wrap64 (x8_1 + 1)) l0_0 a0_1 a0_2) = some (r1, r2, r3) := rq hy337 H
     have Ny337 := aS hy337
     clear hy337
     have H' := aS H
     clear H
     have hnb10 := NB329_330.out
     have hnc10 := NB330_329.out
     have hz11 := cel3 BK329.out
     go_wp2_with (first | ((with_reducible refine gate_dst (N := 20) rfl ?_); refine Kd.R_lit k52 _ 52 ?hg (N := 20) ?hd (xs := ([] : List (S52))) (inner := []) (ok := fun _ => True) (okp := fun _ => True) ?hr ?hp (fun _ hk => hk) trivial (Below.refl _ _) (Nat.le_refl _) (by simp) ?_; (case hd => rfl); (case hg => rfl); (case hr => first | (go_simp; done) | (go_simp; rfl)); (case hp => exact (Reps.none _ _)); intro v332 w12 ho13 hb hg_ hnew_; clear hg_ hnew_; (first | rw [← Ny331.out] at ho13 | (simp only [Int.reduceToNat] at ho13; rw [← Ny331.out] at ho13)); replace HO_7 := aS (Kd.N_elder' (by (with_reducible repeat (first | apply Kd.N_alloc | apply Kd.N_drewN | apply Kd.N_drew)); exact HO_7.out) (Kd.R_base ho13) hb); replace HO_330000 := aS (Kd.V_elder' (rv HO_330000) (Kd.R_base ho13) hb); have HO333 := aS (Kd.R_lower (Kd.R_newM (M := fun k_ => (w.heap.size ≤ k_)) ho13 (below_size bS) (fun k_ h_ => h_)) (below_size bS)); replace BK329 := aS (blk_below (kb BK329) hb); replace BK330 := aS (blk_below (kb BK330) hb); replace HB := aS (below_step bS hb); clear hb ho13) | ((with_reducible refine gate_builtin (b := .append) (xs := #[.tmp 20, .tmp 21]) rfl ?_); at_builtin; refine Kd.R_append_rows k52 (w0 := w) w.heap.size rfl (.tmp 20) (.tmp 21) 72 52 (.agg #[(.int .i64 0), (.int .i64 0), (.int .i64 0), (.int .u8 0), (.int .u8 0), (.int .u8 0), (.int .u8 0)]) 32 rfl Tryz.underlying72 info52 rfl (by decide) (by omega) v332 y331 l2 _ _ _ (fun k_ => (w.heap.size ≤ k_)) (fun _ => False) rfl rfl ?aO ?aR (fun _ _ h => h) (fun _ h => h.elim) ?aF ?aB ?aS ?aL ?_; (case aR => repeat (first | exact (Kd.C_below HR2.out HB.out) | (with_reducible refine Kd.C_alloc ?_ _) | (with_reducible refine Kd.C_drewN ?_ _) | (with_reducible refine Kd.C_drew ?_))); (case aB => exact bS); (case aF => exact (fun k_ hk => (Nat.le_trans (below_size bS) hk))); (case aO => exact (by (with_reducible repeat (first | apply rA | apply rN | apply rD)); exact Kd.R_mono HO333.out (fun _ hk => hk.1))); (case aS => exact (below_size bS)); (case aL => have := LMc8.out; omega); intro v335 w14 ho hb hg hat; rw [← Ny334.out] at ho; replace HO_7 := aS (Kd.N_afterv (ok := (fun k_ => (P0_0_ k_ ∨ w.heap.size ≤ k_) ∧ k_ ≠ gb329 ∧ k_ ≠ gb330)) (by (with_reducible repeat (first | apply Kd.N_alloc | apply Kd.N_drewN | apply Kd.N_drew)); exact HO_7.out) hg hat); replace HO_330000 := aS (Kd.V_afterv (ok := (fun k_ => (P0_0_ k_ ∨ w.heap.size ≤ k_) ∧ some k_ ≠ (u7 : Value).ownBlock ∧ k_ ≠ gb329 ∧ k_ ≠ gb330)) (rv HO_330000) hg hat); replace BK329 := aS (blk_grown (kb BK329) hg (Kd.R_ne HO333.out BK329.out (by decide))); replace BK330 := aS (blk_grown (kb BK330) hg (Kd.R_ne HO333.out BK330.out (by decide))); replace HB := aS (hb); have HO336 := aS (ho); clear HO333; clear ho hb hg hat; obtain ⟨Ao16, co16, eo16⟩ := Kd.R_slice HO336.out; subst eo16) | ((with_reducible refine gate_builtin (b := .append) (xs := #[.tmp 19, .tmp 23]) rfl ?_); at_builtin; refine Kd.N_append (Kd.slice 52 k52) (w0 := w) w.heap.size rfl (.tmp 19) (.tmp 23) 30 72 (.slice none 0 0) 24 rfl Tryz.underlying30 info72 rfl (by decide) (by omega) u7 x7_1 y334 [.slice Ao16 y334.length co16] (fun k_ => (P0_0_ k_ ∨ w.heap.size ≤ k_) ∧ k_ ≠ gb329 ∧ k_ ≠ gb330) (fun k_ => ((fun k_ => (P0_0_ k_ ∨ w.heap.size ≤ k_) ∧ k_ ≠ gb329 ∧ k_ ≠ gb330)) k_ ∧ some k_ ≠ (u7 : Value).ownBlock) rfl rfl ?aP (fun _ hk => hk) ?aF ?aO ?aB ?aS ?aL ?_; (case aP => exact (Kd.FK_slice_mk (Kd.R_reads' (Kd.R_mono (ok' := (fun k_ => ((fun k_ => (P0_0_ k_ ∨ w.heap.size ≤ k_) ∧ k_ ≠ gb329 ∧ k_ ≠ gb330)) k_ ∧ some k_ ≠ (u7 : Value).ownBlock)) (Kd.R_types (Kd.R_types (Kd.R_apart' (HO336.out) (Kd.N_typed HO_7.out) (by decide)) BK329.out (by decide)) BK330.out (by decide)) (fun k_ hk => ⟨⟨(.inr (hk.1.1.1)), ⟨hk.1.2, hk.2⟩⟩, hk.1.1.2⟩))).2.1 (Kd.R_F (Kd.R_mono (ok' := (fun k_ => ((fun k_ => (P0_0_ k_ ∨ w.heap.size ≤ k_) ∧ k_ ≠ gb329 ∧ k_ ≠ gb330)) k_ ∧ some k_ ≠ (u7 : Value).ownBlock)) (Kd.R_types (Kd.R_types (Kd.R_apart' (HO336.out) (Kd.N_typed HO_7.out) (by decide)) BK329.out (by decide)) BK330.out (by decide)) (fun k_ hk => ⟨⟨(.inr (hk.1.1.1)), ⟨hk.1.2, hk.2⟩⟩, hk.1.1.2⟩))))); (case aB => exact bS); (case aF => exact (fun k_ hk => ⟨(.inr (Nat.le_trans (below_size bS) hk)), Kd.freshB (kb BK329) k_ hk, Kd.freshB (kb BK330) k_ hk⟩)); (case aO => exact (by (with_reducible repeat (first | apply Kd.N_alloc | apply Kd.N_drewN | apply Kd.N_drew)); exact Kd.N_mono HO_7.out (fun _ hk => ⟨hk.1.1, ⟨hk.1.2.1, hk.1.2.2⟩⟩))); (case aS => exact (below_size bS)); (case aL => have := LMc9.out; omega); intro v338 w15 ho hb hg hat; rw [← Ny337.out] at ho; replace HO_330000 := aS (Kd.V_afterv (ok := (fun k_ => (P0_0_ k_ ∨ w.heap.size ≤ k_) ∧ some k_ ≠ (.slice Ao16 y334.length co16 : Value).ownBlock ∧ k_ ≠ gb329 ∧ k_ ≠ gb330)) (by (with_reducible repeat (first | apply Kd.V_alloc | apply Kd.V_drewN | apply Kd.V_drew)); exact Kd.V_mono HO_330000.out (fun _ hk => ⟨⟨hk.1.1, ⟨hk.2, ⟨hk.1.2.2.1, hk.1.2.2.2⟩⟩⟩, hk.1.2.1⟩)) hg hat); replace BK329 := aS (blk_grown (kb BK329) hg (Kd.N_ne HO_7.out BK329.out (by decide))); replace BK330 := aS (blk_grown (kb BK330) hg (Kd.N_ne HO_7.out BK330.out (by decide))); replace HB := aS (hb); have HO339 := aS (ho); clear HO_7 HO336; clear ho hb hg hat))
     go_roundg k1
     case measure => have := HK1.out; omega
     case rel => exact ⟨(y337), (wrap64 (x8_1 + 1)), fS, H', ⟨by have := HK1.out; omega⟩, ⟨by (with_reducible repeat (first | apply Kd.N_alloc | apply Kd.N_drewN | apply Kd.N_drew)); exact HO339.out⟩, ⟨by (with_reducible repeat (first | apply Kd.V_alloc | apply Kd.V_drewN | apply Kd.V_drew)); exact Kd.V_mono HO_330000.out (fun _ hk => ⟨hk.1.1, ⟨hk.2, ⟨hk.1.2.2.1, hk.1.2.2.2⟩⟩⟩)⟩, ⟨kb BK329⟩, ⟨kb BK330⟩, ⟨bS⟩⟩
    ·rw [if_neg c7] at H
     have c7b0 : (x8_1 == a1) = false := beq_eq_false_iff_ne.mpr c7
     have c7b1 : (x8_1 != a1) = true := bne_iff_ne.mpr c7
     obtain ⟨c17, H⟩ := ifS H
     have c17b0 : decide (0 ≤ x8_1) = true := decide_eq_true c17
     clear c17
     obtain ⟨c18, H⟩ := ifS H
     have LMc18 := aS c18
     clear c18
     obtain ⟨y341, hy341⟩ : ∃ y_ : List (List (S52)), y_ = (x7_1 ++ [rd_L9 l0_0 x8_1]) := ⟨_, rfl⟩
     replace H : (prolepsisref07_with.l0 k1 a1 l2 y341 (wrap64 (x8_1 + 1)) l0_0 a0_1 a0_2) = some (r1, r2, r3) := rq hy341 H
     have Ny341 := aS hy341
     clear hy341
     have H' := aS H
     clear H
     have hnb19 := NB329_330.out
     have hnc19 := NB330_329.out
     have hz20 := cel3 BK329.out
     have p340 : 0 ≤ (x8_1 : Int) := dA
     have q340 : x8_1 < (l0_0.length : Int) := dA
     obtain ⟨ad340, A340_0, c340_0, e340, hx340_0, hl340_0, hi340_0⟩ := at_L9 (Kd.V_reads' HO_330000.out).2.2 x8_1 p340 q340
     cases e340
     obtain ⟨ce340, hce340, hMe340, hcc340⟩ := Kd.V_get HO_330000.out [] x8_1 p340 (by first | exact q340 | exact dA | (have e_ := (Kd.V_reads' HO_330000.out).1; omega))
     obtain ⟨ua340_0, uc340_0, rfl, ul340_0, ge340_0⟩ := Kd.FK_slice_open hMe340
     have hv340_0 := hcc340 0 _ rfl
     rw [Nat.add_zero, show ((Kd.slice 52 k52)).sz = 1 from rfl, Nat.mul_one] at hv340_0
     replace hv340_0 := Option.some.inj (hv340_0.symm.trans hx340_0)
     injection hv340_0 with hva_ hvn_ hvc_
     rw [hva_] at ge340_0
     rw [hvc_] at ul340_0
     have HL340_0 := aS (show Kd.V k52 52 _ w.heap.size _ _ (rd_L9 l0_0 x8_1) from Kd.V_mk ul340_0 ge340_0)
     clear hva_ hvn_ hvc_ ge340_0 ul340_0
     clear hcc340 hce340
     have HR340_0 := aS hi340_0
     have HC340_0 := aS hl340_0
     clear hi340_0 hl340_0
     replace p340 := eq_true p340
     replace q340 := eq_true q340
     go_wp2_with (first | ((with_reducible refine gate_builtin (b := .append) (xs := #[.tmp 25, .tmp 31]) rfl ?_); at_builtin; refine Kd.N_append (Kd.slice 52 k52) (w0 := w) w.heap.size rfl (.tmp 25) (.tmp 31) 30 72 (.slice none 0 0) 24 rfl Tryz.underlying30 info72 rfl (by decide) (by omega) u7 x7_1 (rd_L9 l0_0 x8_1) [.slice A340_0 (rd_L9 l0_0 x8_1).length c340_0] (fun k_ => (P0_0_ k_ ∨ w.heap.size ≤ k_) ∧ k_ ≠ gb329 ∧ k_ ≠ gb330) (fun k_ => ((fun k_ => (P0_0_ k_ ∨ w.heap.size ≤ k_) ∧ k_ ≠ gb329 ∧ k_ ≠ gb330)) k_ ∧ some k_ ≠ (u7 : Value).ownBlock) rfl rfl ?aP (fun _ hk => hk) ?aF ?aO ?aB ?aS ?aL ?_; (case aP => exact (Kd.FK_slice_mk (Kd.V_reads' (Kd.V_mono (ok' := (fun k_ => ((fun k_ => (P0_0_ k_ ∨ w.heap.size ≤ k_) ∧ k_ ≠ gb329 ∧ k_ ≠ gb330)) k_ ∧ some k_ ≠ (u7 : Value).ownBlock)) (HL340_0.out) (fun k_ hk => ⟨⟨hk.1, ⟨hk.2.2.1, hk.2.2.2⟩⟩, hk.2.1⟩))).2.1 (Kd.V_F (Kd.V_mono (ok' := (fun k_ => ((fun k_ => (P0_0_ k_ ∨ w.heap.size ≤ k_) ∧ k_ ≠ gb329 ∧ k_ ≠ gb330)) k_ ∧ some k_ ≠ (u7 : Value).ownBlock)) (HL340_0.out) (fun k_ hk => ⟨⟨hk.1, ⟨hk.2.2.1, hk.2.2.2⟩⟩, hk.2.1⟩))))); (case aB => exact bS); (case aF => exact (fun k_ hk => ⟨(.inr (Nat.le_trans (below_size bS) hk)), Kd.freshB (kb BK329) k_ hk, Kd.freshB (kb BK330) k_ hk⟩)); (case aO => exact (by (with_reducible repeat (first | apply Kd.N_alloc | apply Kd.N_drewN | apply Kd.N_drew)); exact HO_7.out)); (case aS => exact (below_size bS)); (case aL => have := LMc18.out; omega); intro v342 w21 ho hb hg hat; rw [← Ny341.out] at ho; replace HO_330000 := aS (Kd.V_afterv (ok := (fun k_ => (P0_0_ k_ ∨ w.heap.size ≤ k_) ∧ k_ ≠ gb329 ∧ k_ ≠ gb330)) (by (with_reducible repeat (first | apply Kd.V_alloc | apply Kd.V_drewN | apply Kd.V_drew)); exact Kd.V_mono HO_330000.out (fun _ hk => ⟨⟨hk.1, ⟨hk.2.2.1, hk.2.2.2⟩⟩, hk.2.1⟩)) hg hat); replace BK329 := aS (blk_grown (kb BK329) hg (Kd.N_ne HO_7.out BK329.out (by decide))); replace BK330 := aS (blk_grown (kb BK330) hg (Kd.N_ne HO_7.out BK330.out (by decide))); replace HL340_0 := aS (Kd.V_afterv (ok := (fun k_ => (P0_0_ k_ ∨ w.heap.size ≤ k_) ∧ k_ ≠ gb329 ∧ k_ ≠ gb330)) (by (with_reducible repeat (first | apply Kd.V_alloc | apply Kd.V_drewN | apply Kd.V_drew)); exact Kd.V_mono HL340_0.out (fun _ hk => ⟨⟨hk.1, ⟨hk.2.2.1, hk.2.2.2⟩⟩, hk.2.1⟩)) hg hat); replace HB := aS (hb); have HO343 := aS (ho); clear HO_7; clear ho hb hg hat))
     go_roundg k1
     case measure => have := HK1.out; omega
     case rel => exact ⟨(y341), (wrap64 (x8_1 + 1)), fS, H', ⟨by have := HK1.out; omega⟩, ⟨by (with_reducible repeat (first | apply Kd.N_alloc | apply Kd.N_drewN | apply Kd.N_drew)); exact HO343.out⟩, ⟨by (with_reducible repeat (first | apply Kd.V_alloc | apply Kd.V_drewN | apply Kd.V_drew)); exact Kd.V_mono HO_330000.out (fun _ hk => ⟨hk.1.1, ⟨hk.2, ⟨hk.1.2.1, hk.1.2.2⟩⟩⟩)⟩, ⟨kb BK329⟩, ⟨kb BK330⟩, ⟨bS⟩⟩
   ·rw [if_neg c6] at H
    have c6b0 : decide (x8_1 < (l0_0.length : Int)) = false := decide_eq_false c6
    clear c6
    simp only [Option.some.injEq, Prod.mk.injEq] at H
    obtain ⟨rfl, rfl, rfl⟩ := H
    have hnb22 := NB329_330.out
    have hnc22 := NB330_329.out
    have hz23 := cel3 BK329.out
    obtain ⟨Ao24, co24, eo24⟩ := Kd.N_slice HO_7.out
    subst eo24
    have hz25 := cel3 BK330.out
    go_wp2
    refine bodyPost_ret (results_cell_row rfl _ _ gb330 32 #[.slice Ao24 x7_1.length co24, .int .i64 a0_1, .int .i64 a0_2] (0, 0) _ rfl (kp BK330) Tryz.underlying32 rfl (by kernel_rfl)) rfl ?_
    exact ⟨_, by first | rfl | (simp <;> rfl) | (simp [*] <;> rfl), by (with_reducible repeat (first | apply Kd.N_alloc | apply Kd.N_drewN | apply Kd.N_drew)); exact Kd.N_mono (Kd.N_far (p := ⟨gb330, 2, none⟩) (Kd.N_far (p := ⟨gb330, 1, none⟩) (Kd.N_far (p := ⟨gb330, 0, none⟩) (Kd.N_mono HO_7.out (fun k_ hk => (⟨hk, hk.2.2⟩ : _ ∧ k_ ≠ gb330))) (fun _ hk => hk.2) (.slice Ao24 x7_1.length co24)) (fun _ hk => hk.2) (.int .i64 a0_1)) (fun _ hk => hk.2) (.int .i64 a0_2)) (fun _ hk => hk.1.1), bS⟩
def prolepsisref05_Mark.j0 : Nat → Int → Bool → Int → Int → Int → Int → Int → Int → Int → Option (Int × Int × Int × Int × Int × Int × Int × Bool)
 | 0, _, _, _, _, _, _, _, _, _ => none
 | k + 1, x1, x18, x345000, x345001, x345002, x345003, x345004, x345005, x345006 => if x18 = true then (some (x345000, x345001, x345002, x345003, x345004, x345005, x345006, false)) else (if x345001 = 0 then (some (x345000, x1, x345002, x345003, x345004, x345005, x345006, true)) else (if x345002 = 0 then (some (x345000, x345001, x1, x345003, x345004, x345005, x345006, true)) else (some (x345000, x345001, x345002, x345003, x345004, x345005, x345006, false))))
def prolepsisref05_Mark.f (k : Nat) (a0_0 : Int) (a0_1 : Int) (a0_2 : Int) (a0_3 : Int) (a0_4 : Int) (a0_5 : Int) (a0_6 : Int) (a1 : Int) : Option (Int × Int × Int × Int × Int × Int × Int × Bool) := (prolepsisref03_Of.f k a1).bind fun t346 => (if t346 = 0 then (if a0_3 = 1 then (prolepsisref05_Mark.j0 k a1 false a0_0 a0_1 a0_2 a0_3 a0_4 a0_5 a0_6) else (prolepsisref05_Mark.j0 k a1 (a0_3 != 2) a0_0 a0_1 a0_2 a0_3 a0_4 a0_5 a0_6)) else (prolepsisref05_Mark.j0 k a1 true a0_0 a0_1 a0_2 a0_3 a0_4 a0_5 a0_6))
set_option maxHeartbeats 8000000 in
set_option maxRecDepth 100000 in
theorem prolepsisref05_Mark.calls (k : Nat) (a0_0 : Int) (a0_1 : Int) (a0_2 : Int) (a0_3 : Int) (a0_4 : Int) (a0_5 : Int) (a0_6 : Int) (a1 : Int) (r1 : Int) (r2 : Int) (r3 : Int) (r4 : Int) (r5 : Int) (r6 : Int) (r7 : Int) (r8 : Bool) (w : World) (h : prolepsisref05_Mark.f k a0_0 a0_1 a0_2 a0_3 a0_4 a0_5 a0_6 a1 = some (r1, r2, r3, r4, r5, r6, r7, r8)) :
 Calls Tryz.prog 95 #[.agg #[.int .i64 a0_0, .int .i64 a0_1, .int .i64 a0_2, .int .u8 a0_3, .int .u8 a0_4, .int .u8 a0_5, .int .u8 a0_6], .int .i64 a1] w fun e w' => e = .returned (.tuple #[.agg #[.int .i64 r1, .int .i64 r2, .int .i64 r3, .int .u8 r4, .int .u8 r5, .int .u8 r6, .int .u8 r7], .bool r8]) ∧ Below w.heap.size w w' := by
 have hu52 := Tryz.underlying52
 have HB := aS (Below.refl w.heap.size w)
 have H : ((prolepsisref03_Of.f k a1).bind fun t346 => (if t346 = 0 then (if a0_3 = 1 then (prolepsisref05_Mark.j0 k a1 false a0_0 a0_1 a0_2 a0_3 a0_4 a0_5 a0_6) else (prolepsisref05_Mark.j0 k a1 (a0_3 != 2) a0_0 a0_1 a0_2 a0_3 a0_4 a0_5 a0_6)) else (prolepsisref05_Mark.j0 k a1 true a0_0 a0_1 a0_2 a0_3 a0_4 a0_5 a0_6))) = some (r1, r2, r3, r4, r5, r6, r7, r8) := h
 clear h
 have HC3 := aS H
 clear H
 go_enter Tryz.func95, Tryz.ntmps95
 go_upto_region 1 with (first | (refine bx 2 #[.int .i64 a0_0, .int .i64 a0_1, .int .i64 a0_2, .int .u8 a0_3, .int .u8 a0_4, .int .u8 a0_5, .int .u8 a0_6] 52 ?_; intro gb344 hg w4 hbox hb; have BK344 := aS (hbox); have GW344 := aS (gw HB hg); have GE344 := aS (gw HB hg); replace HB := aS (below_step bB hb); clear hb hbox hg) | (refine bx 4 #[.int .i64 0, .int .i64 0, .int .i64 0, .int .u8 0, .int .u8 0, .int .u8 0, .int .u8 0] 52 ?_; intro gb345 hg w5 hbox hb; have BK345 := aS (hbox); have GW345 := aS (gw HB hg); have GE345 := aS (gw HB hg); replace HB := aS (below_step bS hb); have NB344_345 := aS ((by rw [hg]; exact Nat.ne_of_lt (blk_lt (kb BK344)) : gb344 ≠ gb345)); have NB345_344 := aS ((by rw [hg]; exact Nat.ne_of_gt (blk_lt (kb BK344)) : gb345 ≠ gb344)); replace BK344 := aS (blk_below (kb BK344) hb); clear hb hbox hg))
 (try simp only [Act.put, List.setIfInBounds_toArray, List.set_cons_zero, List.set_cons_succ])
 go_cut [18] (fun v18 wc => ∃ (kq : Nat) (x18_2 : Bool), v18 = .bool x18_2 ∧ Aside0 (prolepsisref05_Mark.j0 kq a1 x18_2 a0_0 a0_1 a0_2 a0_3 a0_4 a0_5 a0_6 = some (r1, r2, r3, r4, r5, r6, r7, r8)) ∧ Aside0 (kq ≤ k) ∧ Aside0 (wc.heap[gb344]? = some (.cells #[.int .i64 a0_0, .int .i64 a0_1, .int .i64 a0_2, .int .u8 a0_3, .int .u8 a0_4, .int .u8 a0_5, .int .u8 a0_6] 52 (0, 0))) ∧ Aside0 (wc.heap[gb345]? = some (.cells #[.int .i64 0, .int .i64 0, .int .i64 0, .int .u8 0, .int .u8 0, .int .u8 0, .int .u8 0] 52 (0, 0))) ∧ Aside0 (Below w.heap.size w wc))
 case first =>
  have H := HC3.out
  clear HC3
  replace H := Option.bind_eq_some_iff.mp H
  obtain ⟨t346, A60, H⟩ := H
  try dsimp only at H
  have A6 := aS A60
  clear A60
  by_cases c7 : t346 = 0
  ·rw [if_pos c7] at H
   have c7b0 : (t346 == 0) = true := beq_iff_eq.mpr c7
   have c7b1 : (t346 != 0) = false := bne_eq_false_iff_eq.mpr c7
   clear c7
   (first | rw [c7b0] | (simp only [i64_w, i32_w]; rw [c7b0]) | skip)
   by_cases c8 : a0_3 = 1
   ·rw [if_pos c8] at H
    have c8b0 : (a0_3 == 1) = true := beq_iff_eq.mpr c8
    have c8b1 : (a0_3 != 1) = false := bne_eq_false_iff_eq.mpr c8
    clear c8
    have H' := aS H
    clear H
    go_wp2_with (first | (refine gL 105 7 Tryz.func105 #[.int .i64 a1] ?_; (with_reducible refine (prolepsisref03_Of.calls k a1 t346 _ A6.out).mono ?_); rintro e w9 ⟨rfl, hb⟩; refine ⟨_, rfl, ?_⟩; replace BK344 := aS (blk_below (kb BK344) hb); replace BK345 := aS (blk_below (kb BK345) hb); replace HB := aS (below_step bS hb); (try clear hb); (try clear hb2); (try clear hk); (try clear hi); have hnb10 := NB344_345.out; have hnc10 := NB345_344.out; have hz11 := cel7 BK344.out))
    go_meet
    case rel => exact ⟨_, (false), fS, H', ⟨by first | omega | exact Nat.le_refl _⟩, ⟨kb BK344⟩, ⟨kb BK345⟩, ⟨bS⟩⟩
   ·rw [if_neg c8] at H
    have c8b0 : (a0_3 == 1) = false := beq_eq_false_iff_ne.mpr c8
    have c8b1 : (a0_3 != 1) = true := bne_iff_ne.mpr c8
    have H' := aS H
    clear H
    go_wp2_with (first | (refine gL 105 7 Tryz.func105 #[.int .i64 a1] ?_; (with_reducible refine (prolepsisref03_Of.calls k a1 t346 _ A6.out).mono ?_); rintro e w12 ⟨rfl, hb⟩; refine ⟨_, rfl, ?_⟩; replace BK344 := aS (blk_below (kb BK344) hb); replace BK345 := aS (blk_below (kb BK345) hb); replace HB := aS (below_step bS hb); (try clear hb); (try clear hb2); (try clear hk); (try clear hi); have hnb13 := NB344_345.out; have hnc13 := NB345_344.out; have hz14 := cel7 BK344.out))
    go_meet
    case rel => exact ⟨_, ((a0_3 != 2)), fS, H', ⟨by first | omega | exact Nat.le_refl _⟩, ⟨kb BK344⟩, ⟨kb BK345⟩, ⟨bS⟩⟩
  ·rw [if_neg c7] at H
   have c7b0 : (t346 == 0) = false := beq_eq_false_iff_ne.mpr c7
   have c7b1 : (t346 != 0) = true := bne_iff_ne.mpr c7
   (first | rw [c7b0] | (simp only [i64_w, i32_w]; rw [c7b0]) | skip)
   have H' := aS H
   clear H
   go_wp2_with (first | (refine gL 105 7 Tryz.func105 #[.int .i64 a1] ?_; (with_reducible refine (prolepsisref03_Of.calls k a1 t346 _ A6.out).mono ?_); rintro e w15 ⟨rfl, hb⟩; refine ⟨_, rfl, ?_⟩; replace BK344 := aS (blk_below (kb BK344) hb); replace BK345 := aS (blk_below (kb BK345) hb); replace HB := aS (below_step bS hb); (try clear hb); (try clear hb2); (try clear hk); (try clear hi)))
   go_meet
   case rel => exact ⟨_, (true), fS, H', ⟨by first | omega | exact Nat.le_refl _⟩, ⟨kb BK344⟩, ⟨kb BK345⟩, ⟨bS⟩⟩
 case rest =>
  clear HC3
  try clear c1
  try clear p2
  try clear c7
  try clear c7b0
  try clear c7b1
  try clear c8
  try clear c8b0
  try clear c8b1
  try clear c9
  try clear c10
  try clear c13
  try clear hz11
  try clear hz14
  obtain ⟨kq, x18_2, rfl, HA, HJ2, BK344, BK345, HB⟩ := hcut
  cases kq with
  | zero => exact absurd HA.out (by simp [prolepsisref05_Mark.j0])
  | succ kj2 =>
   have H := HA.out
   clear HA
   simp only [prolepsisref05_Mark.j0] at H
   by_cases c16 : x18_2 = true
   ·subst c16
    have H1 : (some (a0_0, a0_1, a0_2, a0_3, a0_4, a0_5, a0_6, false)) = some (r1, r2, r3, r4, r5, r6, r7, r8) := by rw [if_pos rfl] at H; exact H
    clear H
    have H := H1
    clear H1
    simp only [Option.some.injEq, Prod.mk.injEq] at H
    obtain ⟨rfl, rfl, rfl, rfl, rfl, rfl, rfl, rfl⟩ := H
    have hnb17 := NB344_345.out
    have hnc17 := NB345_344.out
    have hz18 := cel7 BK344.out
    have hz19 := cel7 BK345.out
    go_wp2
    refine bodyPost_ret (results_ct rfl _ _ gb345 52 #[.int .i64 a0_0, .int .i64 a0_1, .int .i64 a0_2, .int .u8 a0_3, .int .u8 a0_4, .int .u8 a0_5, .int .u8 a0_6] (0, 0) _ rfl (kp BK345) Tryz.underlying52 rfl (by kernel_rfl)) rfl ?_
    exact ⟨by first | rfl | (simp <;> rfl) | (simp [*] <;> rfl), bS⟩
   ·replace c16 := Bool.eq_false_iff.mpr c16
    subst c16
    have H1 : (if a0_1 = 0 then (some (a0_0, a1, a0_2, a0_3, a0_4, a0_5, a0_6, true)) else (if a0_2 = 0 then (some (a0_0, a0_1, a1, a0_3, a0_4, a0_5, a0_6, true)) else (some (a0_0, a0_1, a0_2, a0_3, a0_4, a0_5, a0_6, false)))) = some (r1, r2, r3, r4, r5, r6, r7, r8) := by rw [if_neg (show ¬ (false = true) by decide)] at H; exact H
    clear H
    have H := H1
    clear H1
    by_cases c20 : a0_1 = 0
    ·rw [if_pos c20] at H
     have c20b0 : (a0_1 == 0) = true := beq_iff_eq.mpr c20
     have c20b1 : (a0_1 != 0) = false := bne_eq_false_iff_eq.mpr c20
     clear c20
     simp only [Option.some.injEq, Prod.mk.injEq] at H
     obtain ⟨rfl, rfl, rfl, rfl, rfl, rfl, rfl, rfl⟩ := H
     have hnb21 := NB344_345.out
     have hnc21 := NB345_344.out
     have hz22 := cel7 BK344.out
     have hz23 := cel7 BK345.out
     go_wp2
     refine bodyPost_ret (results_ct rfl _ _ gb345 52 #[.int .i64 a0_0, .int .i64 a1, .int .i64 a0_2, .int .u8 a0_3, .int .u8 a0_4, .int .u8 a0_5, .int .u8 a0_6] (0, 0) _ rfl (kp BK345) Tryz.underlying52 rfl (by kernel_rfl)) rfl ?_
     exact ⟨by first | rfl | (simp <;> rfl) | (simp [*] <;> rfl), bS⟩
    ·rw [if_neg c20] at H
     have c20b0 : (a0_1 == 0) = false := beq_eq_false_iff_ne.mpr c20
     have c20b1 : (a0_1 != 0) = true := bne_iff_ne.mpr c20
     by_cases c24 : a0_2 = 0
     ·rw [if_pos c24] at H
      have c24b0 : (a0_2 == 0) = true := beq_iff_eq.mpr c24
      have c24b1 : (a0_2 != 0) = false := bne_eq_false_iff_eq.mpr c24
      clear c24
      simp only [Option.some.injEq, Prod.mk.injEq] at H
      obtain ⟨rfl, rfl, rfl, rfl, rfl, rfl, rfl, rfl⟩ := H
      have hnb25 := NB344_345.out
      have hnc25 := NB345_344.out
      have hz26 := cel7 BK344.out
      have hz27 := cel7 BK345.out
      go_wp2
      refine bodyPost_ret (results_ct rfl _ _ gb345 52 #[.int .i64 a0_0, .int .i64 a0_1, .int .i64 a1, .int .u8 a0_3, .int .u8 a0_4, .int .u8 a0_5, .int .u8 a0_6] (0, 0) _ rfl (kp BK345) Tryz.underlying52 rfl (by kernel_rfl)) rfl ?_
      exact ⟨by first | rfl | (simp <;> rfl) | (simp [*] <;> rfl), bS⟩
     ·rw [if_neg c24] at H
      have c24b0 : (a0_2 == 0) = false := beq_eq_false_iff_ne.mpr c24
      have c24b1 : (a0_2 != 0) = true := bne_iff_ne.mpr c24
      simp only [Option.some.injEq, Prod.mk.injEq] at H
      obtain ⟨rfl, rfl, rfl, rfl, rfl, rfl, rfl, rfl⟩ := H
      have hnb28 := NB344_345.out
      have hnc28 := NB345_344.out
      have hz29 := cel7 BK344.out
      have hz30 := cel7 BK345.out
      go_wp2
      refine bodyPost_ret (results_ct rfl _ _ gb345 52 #[.int .i64 a0_0, .int .i64 a0_1, .int .i64 a0_2, .int .u8 a0_3, .int .u8 a0_4, .int .u8 a0_5, .int .u8 a0_6] (0, 0) _ rfl (kp BK345) Tryz.underlying52 rfl (by kernel_rfl)) rfl ?_
      exact ⟨by first | rfl | (simp <;> rfl) | (simp [*] <;> rfl), bS⟩
end Go.Proofs.YtblcmcdifgclcaaGreat.PGridPlays
