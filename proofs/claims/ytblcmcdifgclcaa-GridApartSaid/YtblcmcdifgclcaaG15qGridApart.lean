/- GridApart: what its proof leads to. No condition. -/
import Derived.Test.YtblcmcdifgclcaaG8qGridApart
import Derived.Test.YtblcmcdifgclcaaG12qGridApart
import Derived.Test.YtblcmcdifgclcaaG13qGridApart
import Derived.Test.YtblcmcdifgclcaaG4qGridApart
namespace Go.Proofs.Ytblcmcdifgclcaa.PGridSame
open Go.RowKit Go.Proofs.YtblcmcdifgclcaaW.PrintWords Go.Proofs.YtblcmcdifgclcaaW.PrintLast Go.Proofs.YtblcmcdifgclcaaW.PrintMore
attribute [local go_sem] isSome_setCell max2_int min2_int max_two min_two
set_option linter.unusedVariables false
set_option linter.unusedSimpArgs false
def prolepsisref06_alone.f (l0 : List (S32)) (a1 : Int) : Option (Bool) := if 0 ≤ a1 then (if a1 < (l0.length : Int) then (if ((rd_T32 l0 a1).f2) = 2 then (if (wrap64 (a1 + 1)) = (l0.length : Int) then (some true) else (if 0 ≤ (wrap64 (a1 + 1)) then (if (wrap64 (a1 + 1)) < (l0.length : Int) then (some (((rd_T32 l0 (wrap64 (a1 + 1))).f2) != 0)) else (none)) else (none))) else (if ((rd_T32 l0 a1).f2) = 0 then (if a1 = 0 then (some true) else (if 0 ≤ (wrap64 (a1 - 1)) then (if (wrap64 (a1 - 1)) < (l0.length : Int) then (some (((rd_T32 l0 (wrap64 (a1 - 1))).f2) != 2)) else (none)) else (none))) else (some false))) else (none)) else (none)
set_option maxHeartbeats 8000000 in
set_option maxRecDepth 100000 in
theorem prolepsisref06_alone.calls (A0 : Option Addr) (c0 : Nat) (l0 : List (S32)) (a1 : Int) (r : Bool) (w : World) (hr0 : Kd.C k32 w A0 l0.length l0) (hc0 : l0.length ≤ c0) (h : prolepsisref06_alone.f l0 a1 = some r) :
 Calls Try.prog 101 #[.slice A0 l0.length c0, .int .i64 a1] w fun e w' => e = .returned (.bool r) ∧ Drawn0 w w' := by
 have HR0 := aS hr0
 have HC0 := aS hc0
 clear hr0 hc0
 have H : (if 0 ≤ a1 then (if a1 < (l0.length : Int) then (if ((rd_T32 l0 a1).f2) = 2 then (if (wrap64 (a1 + 1)) = (l0.length : Int) then (some true) else (if 0 ≤ (wrap64 (a1 + 1)) then (if (wrap64 (a1 + 1)) < (l0.length : Int) then (some (((rd_T32 l0 (wrap64 (a1 + 1))).f2) != 0)) else (none)) else (none))) else (if ((rd_T32 l0 a1).f2) = 0 then (if a1 = 0 then (some true) else (if 0 ≤ (wrap64 (a1 - 1)) then (if (wrap64 (a1 - 1)) < (l0.length : Int) then (some (((rd_T32 l0 (wrap64 (a1 - 1))).f2) != 2)) else (none)) else (none))) else (some false))) else (none)) else (none)) = some r := h
 clear h
 obtain ⟨c3, H⟩ := ifS H
 have c3b0 : decide (0 ≤ a1) = true := decide_eq_true c3
 clear c3
 obtain ⟨c4, H⟩ := ifS H
 have c4b0 : decide (a1 < (l0.length : Int)) = true := decide_eq_true c4
 clear c4
 by_cases c5 : ((rd_T32 l0 a1).f2) = 2
 ·rw [if_pos c5] at H
  have c5b0 : (((rd_T32 l0 a1).f2) == 2) = true := beq_iff_eq.mpr c5
  have c5b1 : (((rd_T32 l0 a1).f2) != 2) = false := bne_eq_false_iff_eq.mpr c5
  clear c5
  by_cases c6 : (wrap64 (a1 + 1)) = (l0.length : Int)
  ·rw [if_pos c6] at H
   have c6b0 : ((wrap64 (a1 + 1)) == (l0.length : Int)) = true := beq_iff_eq.mpr c6
   have c6b1 : ((wrap64 (a1 + 1)) != (l0.length : Int)) = false := bne_eq_false_iff_eq.mpr c6
   clear c6
   obtain rfl := Option.some.inj H
   have p332 : 0 ≤ (a1 : Int) := dA
   have q332 : a1 < (l0.length : Int) := dA
   obtain ⟨ad332, e332, hx332_0, hx332_1, hx332_2, hx332_3, hx332_4, hx332_5, hx332_6⟩ := at_T32 HR0.out a1 p332 q332
   cases e332
   replace p332 := eq_true p332
   replace q332 := eq_true q332
   go_enter Try.func101, Try.ntmps101
   go_wp2
   go_ret
   exact ⟨by first | rfl | (simp; done) | (simp [*]; done), by repeat (first | exact Drawn0.refl _ | apply Drawn0.step)⟩
  ·rw [if_neg c6] at H
   have c6b0 : ((wrap64 (a1 + 1)) == (l0.length : Int)) = false := beq_eq_false_iff_ne.mpr c6
   have c6b1 : ((wrap64 (a1 + 1)) != (l0.length : Int)) = true := bne_iff_ne.mpr c6
   obtain ⟨ji7, hji7⟩ : ∃ j_ : Int, (wrap64 (a1 + 1)) = j_ := ⟨_, rfl⟩
   replace H : (if 0 ≤ (ji7) then (if (ji7) < (l0.length : Int) then (some (((rd_T32 l0 (ji7)).f2) != 0)) else (none)) else (none)) = some r := by first | (rw [hji7] at H; exact H) | (simp only [hji7] at H ⊢; exact H)
   (try rw [hji7] at c6b0)
   (try rw [hji7] at c6b1)
   have hji7w : (IntKind.i64.wrap (a1 + 1)) = ji7 := (i64_w _).trans hji7
   obtain ⟨c8, H⟩ := ifS H
   have c8b0 : decide (0 ≤ (ji7)) = true := decide_eq_true c8
   clear c8
   obtain ⟨c9, H⟩ := ifS H
   have c9b0 : decide ((ji7) < (l0.length : Int)) = true := decide_eq_true c9
   clear c9
   obtain rfl := Option.some.inj H
   have p332 : 0 ≤ (a1 : Int) := dA
   have q332 : a1 < (l0.length : Int) := dA
   obtain ⟨ad332, e332, hx332_0, hx332_1, hx332_2, hx332_3, hx332_4, hx332_5, hx332_6⟩ := at_T32 HR0.out a1 p332 q332
   cases e332
   replace p332 := eq_true p332
   replace q332 := eq_true q332
   have p333 : 0 ≤ ((ji7) : Int) := dA
   have q333 : (ji7) < (l0.length : Int) := dA
   obtain ⟨ad333, e333, hx333_0, hx333_1, hx333_2, hx333_3, hx333_4, hx333_5, hx333_6⟩ := at_T32 HR0.out (ji7) p333 q333
   obtain rfl : ad332 = ad333 := (by injection e333)
   replace p333 := eq_true p333
   replace q333 := eq_true q333
   go_enter Try.func101, Try.ntmps101
   go_wp2
   go_ret
   exact ⟨by first | rfl | (simp; done) | (simp only [← hji7] <;> (first | rfl | simp)) | (simp [*]; done), by repeat (first | exact Drawn0.refl _ | apply Drawn0.step)⟩
 ·rw [if_neg c5] at H
  have c5b0 : (((rd_T32 l0 a1).f2) == 2) = false := beq_eq_false_iff_ne.mpr c5
  have c5b1 : (((rd_T32 l0 a1).f2) != 2) = true := bne_iff_ne.mpr c5
  by_cases c10 : ((rd_T32 l0 a1).f2) = 0
  ·rw [if_pos c10] at H
   have c10b0 : (((rd_T32 l0 a1).f2) == 0) = true := beq_iff_eq.mpr c10
   have c10b1 : (((rd_T32 l0 a1).f2) != 0) = false := bne_eq_false_iff_eq.mpr c10
   clear c10
   by_cases c11 : a1 = 0
   ·rw [if_pos c11] at H
    have c11b0 : (a1 == 0) = true := beq_iff_eq.mpr c11
    have c11b1 : (a1 != 0) = false := bne_eq_false_iff_eq.mpr c11
    clear c11
    obtain rfl := Option.some.inj H
    have p332 : 0 ≤ (a1 : Int) := dA
    have q332 : a1 < (l0.length : Int) := dA
    obtain ⟨ad332, e332, hx332_0, hx332_1, hx332_2, hx332_3, hx332_4, hx332_5, hx332_6⟩ := at_T32 HR0.out a1 p332 q332
    cases e332
    replace p332 := eq_true p332
    replace q332 := eq_true q332
    have p334 : 0 ≤ (a1 : Int) := dA
    have q334 : a1 < (l0.length : Int) := dA
    obtain ⟨ad334, e334, hx334_0, hx334_1, hx334_2, hx334_3, hx334_4, hx334_5, hx334_6⟩ := at_T32 HR0.out a1 p334 q334
    obtain rfl : ad332 = ad334 := (by injection e334)
    replace p334 := eq_true p334
    replace q334 := eq_true q334
    go_enter Try.func101, Try.ntmps101
    go_wp2
    go_ret
    exact ⟨by first | rfl | (simp; done) | (simp [*]; done), by repeat (first | exact Drawn0.refl _ | apply Drawn0.step)⟩
   ·rw [if_neg c11] at H
    have c11b0 : (a1 == 0) = false := beq_eq_false_iff_ne.mpr c11
    have c11b1 : (a1 != 0) = true := bne_iff_ne.mpr c11
    obtain ⟨ji12, hji12⟩ : ∃ j_ : Int, (wrap64 (a1 - 1)) = j_ := ⟨_, rfl⟩
    replace H : (if 0 ≤ (ji12) then (if (ji12) < (l0.length : Int) then (some (((rd_T32 l0 (ji12)).f2) != 2)) else (none)) else (none)) = some r := by first | (rw [hji12] at H; exact H) | (simp only [hji12] at H ⊢; exact H)
    have hji12w : (IntKind.i64.wrap (a1 - 1)) = ji12 := (i64_w _).trans hji12
    obtain ⟨c13, H⟩ := ifS H
    have c13b0 : decide (0 ≤ (ji12)) = true := decide_eq_true c13
    clear c13
    obtain ⟨c14, H⟩ := ifS H
    have c14b0 : decide ((ji12) < (l0.length : Int)) = true := decide_eq_true c14
    clear c14
    obtain rfl := Option.some.inj H
    have p332 : 0 ≤ (a1 : Int) := dA
    have q332 : a1 < (l0.length : Int) := dA
    obtain ⟨ad332, e332, hx332_0, hx332_1, hx332_2, hx332_3, hx332_4, hx332_5, hx332_6⟩ := at_T32 HR0.out a1 p332 q332
    cases e332
    replace p332 := eq_true p332
    replace q332 := eq_true q332
    have p334 : 0 ≤ (a1 : Int) := dA
    have q334 : a1 < (l0.length : Int) := dA
    obtain ⟨ad334, e334, hx334_0, hx334_1, hx334_2, hx334_3, hx334_4, hx334_5, hx334_6⟩ := at_T32 HR0.out a1 p334 q334
    obtain rfl : ad332 = ad334 := (by injection e334)
    replace p334 := eq_true p334
    replace q334 := eq_true q334
    have p335 : 0 ≤ ((ji12) : Int) := dA
    have q335 : (ji12) < (l0.length : Int) := dA
    obtain ⟨ad335, e335, hx335_0, hx335_1, hx335_2, hx335_3, hx335_4, hx335_5, hx335_6⟩ := at_T32 HR0.out (ji12) p335 q335
    obtain rfl : ad332 = ad335 := (by injection e335)
    replace p335 := eq_true p335
    replace q335 := eq_true q335
    go_enter Try.func101, Try.ntmps101
    go_wp2
    go_ret
    exact ⟨by first | rfl | (simp; done) | (simp only [← hji12] <;> (first | rfl | simp)) | (simp [*]; done), by repeat (first | exact Drawn0.refl _ | apply Drawn0.step)⟩
  ·rw [if_neg c10] at H
   have c10b0 : (((rd_T32 l0 a1).f2) == 0) = false := beq_eq_false_iff_ne.mpr c10
   have c10b1 : (((rd_T32 l0 a1).f2) != 0) = true := bne_iff_ne.mpr c10
   obtain rfl := Option.some.inj H
   have p332 : 0 ≤ (a1 : Int) := dA
   have q332 : a1 < (l0.length : Int) := dA
   obtain ⟨ad332, e332, hx332_0, hx332_1, hx332_2, hx332_3, hx332_4, hx332_5, hx332_6⟩ := at_T32 HR0.out a1 p332 q332
   cases e332
   replace p332 := eq_true p332
   replace q332 := eq_true q332
   have p334 : 0 ≤ (a1 : Int) := dA
   have q334 : a1 < (l0.length : Int) := dA
   obtain ⟨ad334, e334, hx334_0, hx334_1, hx334_2, hx334_3, hx334_4, hx334_5, hx334_6⟩ := at_T32 HR0.out a1 p334 q334
   obtain rfl : ad332 = ad334 := (by injection e334)
   replace p334 := eq_true p334
   replace q334 := eq_true q334
   go_enter Try.func101, Try.ntmps101
   go_wp2
   go_ret
   exact ⟨by first | rfl | (simp; done) | (simp [*]; done), by repeat (first | exact Drawn0.refl _ | apply Drawn0.step)⟩
def prolepsisref06_Mend.l0 : Nat → List (S32) → List (S32) → Int → Option ((List (S32)))
 | 0, _, _, _ => none
 | k + 1, x0, x3, x4 => if x4 < (x0.length : Int) then (if 0 ≤ x4 then ((prolepsisref06_alone.f x0 x4).bind fun t338 => (if t338 = true then ((prolepsisref05_Blank.f ((rd_T32 x0 x4).f3.f0) ((rd_T32 x0 x4).f3.f1) ((rd_T32 x0 x4).f3.f2)).bind fun bt339 => (if x3.length < 4398046511104 then (prolepsisref06_Mend.l0 k x0 (x3 ++ [(⟨bt339.1, (⟨bt339.2.1, bt339.2.2.1⟩ : S29), bt339.2.2.2.1, (⟨bt339.2.2.2.2.1, bt339.2.2.2.2.2.1, bt339.2.2.2.2.2.2⟩ : S30)⟩ : S32)]) (wrap64 (x4 + 1))) else (none))) else (if x3.length < 4398046511104 then (prolepsisref06_Mend.l0 k x0 (x3 ++ [(⟨(rd_T32 x0 x4).f0, (⟨(rd_T32 x0 x4).f1.f0, (rd_T32 x0 x4).f1.f1⟩ : S29), (rd_T32 x0 x4).f2, (⟨(rd_T32 x0 x4).f3.f0, (rd_T32 x0 x4).f3.f1, (rd_T32 x0 x4).f3.f2⟩ : S30)⟩ : S32)]) (wrap64 (x4 + 1))) else (none)))) else (none)) else (some x3)
def prolepsisref06_Mend.f (k : Nat) (l0 : List (S32)) : Option ((List (S32))) := prolepsisref06_Mend.l0 k l0 ([] : List (S32)) 0
set_option maxHeartbeats 8000000 in
set_option maxRecDepth 100000 in
theorem prolepsisref06_Mend.calls (k : Nat) (A0 : Option Addr) (c0 : Nat) (l0 : List (S32)) (r : List (S32)) (w : World) (hr0 : Kd.C k32 w A0 l0.length l0) (hc0 : l0.length ≤ c0) (h : prolepsisref06_Mend.f k l0 = some r) :
 Calls Try.prog 50 #[.slice A0 l0.length c0] w fun e w' => ∃ v0_ : Value, e = .returned (v0_) ∧ Kd.R k32 32 w' w.heap.size (fun _ => True) v0_ r ∧ Below w.heap.size w w' := by
 have hu32 := Try.underlying32
 have hu30 := Try.underlying30
 have HR0 := aS hr0
 have HC0 := aS hc0
 clear hr0 hc0
 have HB := aS (Below.refl w.heap.size w)
 have H : (prolepsisref06_Mend.l0 k l0 ([] : List (S32)) 0) = some r := h
 clear h
 have H' := aS H
 clear H
 go_enter Try.func50, Try.ntmps50
 go_wp2
 go_loopg [3, 4] k (fun kq v3 v4 w' => ∃ (x3_1 : List (S32)) (x4_1 : Int), v4 = .int .i64 x4_1 ∧ Aside0 (prolepsisref06_Mend.l0 kq l0 x3_1 x4_1 = some r) ∧ Aside0 (kq ≤ k) ∧ Aside0 (Kd.R k32 32 w' w.heap.size (fun _ => True) v3 x3_1) ∧ Aside0 (Below w.heap.size w w'))
 case atStart => exact ⟨(([] : List (S32))), (0), fS, H', ⟨Nat.le_refl _⟩, ⟨by first | exact Kd.R_nil _ _ _ _ _ | exact Kd.N_nil _ _ _ _ _ | exact Kd.V_nil _ _ _ _ _ | exact Kd.Q_nil _ _ _ _ _ | exact Kd.S_nil _ _ _ _ _⟩, ⟨bB⟩⟩
 case round =>
  clear H'
  obtain ⟨x3_1, x4_1, rfl, HA, HK1, HO_3, HB⟩ := hrel
  cases gk with
  | zero => exact absurd HA.out (by simp [prolepsisref06_Mend.l0])
  | succ k1 =>
   have H := HA.out
   clear HA
   simp only [prolepsisref06_Mend.l0] at H
   by_cases c2 : x4_1 < (l0.length : Int)
   ·rw [if_pos c2] at H
    have c2b0 : decide (x4_1 < (l0.length : Int)) = true := decide_eq_true c2
    clear c2
    obtain ⟨c3, H⟩ := ifS H
    have c3b0 : decide (0 ≤ x4_1) = true := decide_eq_true c3
    clear c3
    replace H := Option.bind_eq_some_iff.mp H
    obtain ⟨t338, A40, H⟩ := H
    try dsimp only at H
    have A4 := aS A40
    clear A40
    by_cases c5 : t338 = true
    ·subst c5
     have H1 : ((prolepsisref05_Blank.f ((rd_T32 l0 x4_1).f3.f0) ((rd_T32 l0 x4_1).f3.f1) ((rd_T32 l0 x4_1).f3.f2)).bind fun bt339 => (if x3_1.length < 4398046511104 then (prolepsisref06_Mend.l0 k1 l0 (x3_1 ++ [(⟨bt339.1, (⟨bt339.2.1, bt339.2.2.1⟩ : S29), bt339.2.2.2.1, (⟨bt339.2.2.2.2.1, bt339.2.2.2.2.2.1, bt339.2.2.2.2.2.2⟩ : S30)⟩ : S32)]) (wrap64 (x4_1 + 1))) else (none))) = some r := by rw [if_pos rfl] at H; exact H
     clear H
     have H := H1
     clear H1
     replace H := Option.bind_eq_some_iff.mp H
     obtain ⟨⟨t339, t340, t341, t342, t343, t344, t345⟩, A60, H⟩ := H
     try dsimp only at H
     have A6 := aS A60
     clear A60
     obtain ⟨c7, H⟩ := ifS H
     have LMc7 := aS c7
     clear c7
     obtain ⟨y346, hy346⟩ : ∃ y_ : List (S32), y_ = (x3_1 ++ [(⟨t339, (⟨t340, t341⟩ : S29), t342, (⟨t343, t344, t345⟩ : S30)⟩ : S32)]) := ⟨_, rfl⟩
     replace H : (prolepsisref06_Mend.l0 k1 l0 y346 (wrap64 (x4_1 + 1))) = some r := rq hy346 H
     have Ny346 := aS hy346
     clear hy346
     have H' := aS H
     clear H
     have p336 : 0 ≤ (x4_1 : Int) := dA
     have q336 : x4_1 < (l0.length : Int) := dA
     obtain ⟨ad336, e336, hx336_0, hx336_1, hx336_2, hx336_3, hx336_4, hx336_5, hx336_6⟩ := at_T32 HR0.out x4_1 p336 q336
     cases e336
     replace hx336_0 := xc HB hx336_0
     replace hx336_1 := xc HB hx336_1
     replace hx336_2 := xc HB hx336_2
     replace hx336_3 := xc HB hx336_3
     replace hx336_4 := xc HB hx336_4
     replace hx336_5 := xc HB hx336_5
     replace hx336_6 := xc HB hx336_6
     replace p336 := eq_true p336
     replace q336 := eq_true q336
     go_wp2_with (first | (refine bx 5 #[.int .i64 0, .int .i64 0, .int .i64 0, .int .u8 0, .int .u8 0, .int .u8 0, .int .u8 0] 32 ?_; intro gb337 hg w8 hbox hb; replace HO_3 := aS (Kd.R_below (Kd.R_elderB (rr HO_3) gb337 (Nat.le_of_eq hg.symm)) hb); have BK337 := aS (hbox); have GW337 := aS (gw HB hg); have GE337 := aS (gw HB hg); replace HB := aS (below_step bB hb); clear hb hbox hg; have hz9 := cel7 BK337.out) | (refine gL 101 18 Try.func101 #[.slice (some ad336) l0.length c0, .int .i64 x4_1] ?_; (with_reducible refine (prolepsisref06_alone.calls _ _ l0 x4_1 true _ ?side1 ?side2 A4.out).mono ?_); (case side1 => exact Kd.C_below HR0.out bS); (case side2 => exact HC0.out); rintro e w' ⟨rfl, ⟨nd, rfl⟩⟩; refine ⟨_, rfl, ?_⟩) | (refine gL 22 21 Try.func22 #[.agg #[.int .u8 ((rd_T32 l0 x4_1).f3.f0), .int .u8 ((rd_T32 l0 x4_1).f3.f1), .int .u8 ((rd_T32 l0 x4_1).f3.f2)]] ?_; (with_reducible refine (prolepsisref05_Blank.calls ((rd_T32 l0 x4_1).f3.f0) ((rd_T32 l0 x4_1).f3.f1) ((rd_T32 l0 x4_1).f3.f2) t339 t340 t341 t342 t343 t344 t345 _ A6.out).mono ?_); rintro e w10 ⟨rfl, hb⟩; refine ⟨_, rfl, ?_⟩; replace HO_3 := aS (Kd.R_below (by (with_reducible repeat (first | apply rA | apply rN | apply rD)); exact (Kd.R_mono (rK (Kd.R_mono HO_3.out (fun k_ hk => (⟨hk, hk.2⟩ : _ ∧ k_ ≠ gb337)))) (fun _ h_ => h_.1))) hb); replace BK337 := aS (blk_below (g := gb337) (o := .cells #[.int .i64 ((rd_T32 l0 x4_1).f0), .int .i64 ((rd_T32 l0 x4_1).f1.f0), .int .i64 ((rd_T32 l0 x4_1).f1.f1), .int .u8 ((rd_T32 l0 x4_1).f2), .int .u8 ((rd_T32 l0 x4_1).f3.f0), .int .u8 ((rd_T32 l0 x4_1).f3.f1), .int .u8 ((rd_T32 l0 x4_1).f3.f2)] 32 (0, 0)) (kp BK337) hb); replace HB := aS (below_step bS hb); (try clear hb); (try clear hb2); (try clear hk); (try clear hi); have hz11 := cel7 BK337.out) | ((with_reducible refine gate_builtin (b := .append) (xs := #[.tmp 22, .tmp 24]) rfl ?_); at_builtin; refine Kd.R_append k32 (w0 := w) w.heap.size rfl (.tmp 22) (.tmp 24) 67 32 (.agg #[(.int .i64 0), (.int .i64 0), (.int .i64 0), (.int .u8 0), (.int .u8 0), (.int .u8 0), (.int .u8 0)]) 32 rfl Try.underlying67 info32 rfl (by decide) (by omega) u3 x3_1 (⟨t339, (⟨t340, t341⟩ : S29), t342, (⟨t343, t344, t345⟩ : S30)⟩ : S32) [.int .i64 t339, .int .i64 t340, .int .i64 t341, .int .u8 t342, .int .u8 t343, .int .u8 t344, .int .u8 t345] (fun k_ => k_ ≠ gb337) (fun _ => False) rfl (by first | (go_simp; done) | (go_simp; rfl)) ?aP (fun _ hk => hk.elim) ?aF ?aO ?aB ?aS ?aL ?_; (case aP => exact k32_mkM _ _ _ (⟨t339, (⟨t340, t341⟩ : S29), t342, (⟨t343, t344, t345⟩ : S30)⟩ : S32)); (case aB => exact bS); (case aF => exact (fun k_ hk => Kd.freshB (g := gb337) (o := .cells #[.int .i64 t339, .int .i64 t340, .int .i64 t341, .int .u8 t342, .int .u8 t343, .int .u8 t344, .int .u8 t345] 32 (0, 0)) (kp BK337) k_ hk)); (case aO => exact (by (with_reducible repeat (first | apply rA | apply rN | apply rD)); exact Kd.R_mono (rK (Kd.R_mono HO_3.out (fun k_ hk => (⟨hk, hk.2⟩ : _ ∧ k_ ≠ gb337)))) (fun _ hk => hk.1.2))); (case aS => exact (below_size bS)); (case aL => have := LMc7.out; omega); intro v347 w12 ho hb hg hat; rw [← Ny346.out] at ho; replace BK337 := aS (blk_grown (g := gb337) (o := .cells #[.int .i64 t339, .int .i64 t340, .int .i64 t341, .int .u8 t342, .int .u8 t343, .int .u8 t344, .int .u8 t345] 32 (0, 0)) (kp BK337) hg (Kd.R_away HO_3.out (fun _ hk => hk.2))); replace HB := aS (hb); have HO348 := aS (ho); clear HO_3; clear ho hb hg hat))
     go_roundg k1
     case measure => have := HK1.out; omega
     case rel => exact ⟨(y346), (wrap64 (x4_1 + 1)), fS, H', ⟨by have := HK1.out; omega⟩, ⟨by (with_reducible repeat (first | apply rA | apply rN | apply rD)); exact Kd.R_mono HO348.out (fun _ hk => trivial)⟩, ⟨bS⟩⟩
    ·replace c5 := Bool.eq_false_iff.mpr c5
     subst c5
     have H1 : (if x3_1.length < 4398046511104 then (prolepsisref06_Mend.l0 k1 l0 (x3_1 ++ [(⟨(rd_T32 l0 x4_1).f0, (⟨(rd_T32 l0 x4_1).f1.f0, (rd_T32 l0 x4_1).f1.f1⟩ : S29), (rd_T32 l0 x4_1).f2, (⟨(rd_T32 l0 x4_1).f3.f0, (rd_T32 l0 x4_1).f3.f1, (rd_T32 l0 x4_1).f3.f2⟩ : S30)⟩ : S32)]) (wrap64 (x4_1 + 1))) else (none)) = some r := by rw [if_neg (show ¬ (false = true) by decide)] at H; exact H
     clear H
     have H := H1
     clear H1
     obtain ⟨c13, H⟩ := ifS H
     have LMc13 := aS c13
     clear c13
     obtain ⟨y349, hy349⟩ : ∃ y_ : List (S32), y_ = (x3_1 ++ [(⟨(rd_T32 l0 x4_1).f0, (⟨(rd_T32 l0 x4_1).f1.f0, (rd_T32 l0 x4_1).f1.f1⟩ : S29), (rd_T32 l0 x4_1).f2, (⟨(rd_T32 l0 x4_1).f3.f0, (rd_T32 l0 x4_1).f3.f1, (rd_T32 l0 x4_1).f3.f2⟩ : S30)⟩ : S32)]) := ⟨_, rfl⟩
     replace H : (prolepsisref06_Mend.l0 k1 l0 y349 (wrap64 (x4_1 + 1))) = some r := rq hy349 H
     have Ny349 := aS hy349
     clear hy349
     have H' := aS H
     clear H
     have p336 : 0 ≤ (x4_1 : Int) := dA
     have q336 : x4_1 < (l0.length : Int) := dA
     obtain ⟨ad336, e336, hx336_0, hx336_1, hx336_2, hx336_3, hx336_4, hx336_5, hx336_6⟩ := at_T32 HR0.out x4_1 p336 q336
     cases e336
     replace hx336_0 := xc HB hx336_0
     replace hx336_1 := xc HB hx336_1
     replace hx336_2 := xc HB hx336_2
     replace hx336_3 := xc HB hx336_3
     replace hx336_4 := xc HB hx336_4
     replace hx336_5 := xc HB hx336_5
     replace hx336_6 := xc HB hx336_6
     replace p336 := eq_true p336
     replace q336 := eq_true q336
     go_wp2_with (first | (refine bx 5 #[.int .i64 0, .int .i64 0, .int .i64 0, .int .u8 0, .int .u8 0, .int .u8 0, .int .u8 0] 32 ?_; intro gb337 hg w14 hbox hb; replace HO_3 := aS (Kd.R_below (Kd.R_elderB (rr HO_3) gb337 (Nat.le_of_eq hg.symm)) hb); have BK337 := aS (hbox); have GW337 := aS (gw HB hg); have GE337 := aS (gw HB hg); replace HB := aS (below_step bB hb); clear hb hbox hg; have hz15 := cel7 BK337.out) | (refine gL 101 18 Try.func101 #[.slice (some ad336) l0.length c0, .int .i64 x4_1] ?_; (with_reducible refine (prolepsisref06_alone.calls _ _ l0 x4_1 false _ ?side1 ?side2 A4.out).mono ?_); (case side1 => exact Kd.C_below HR0.out bS); (case side2 => exact HC0.out); rintro e w' ⟨rfl, ⟨nd, rfl⟩⟩; refine ⟨_, rfl, ?_⟩) | ((with_reducible refine gate_builtin (b := .append) (xs := #[.tmp 22, .tmp 24]) rfl ?_); at_builtin; refine Kd.R_append k32 (w0 := w) w.heap.size rfl (.tmp 22) (.tmp 24) 67 32 (.agg #[(.int .i64 0), (.int .i64 0), (.int .i64 0), (.int .u8 0), (.int .u8 0), (.int .u8 0), (.int .u8 0)]) 32 rfl Try.underlying67 info32 rfl (by decide) (by omega) u3 x3_1 (⟨(rd_T32 l0 x4_1).f0, (⟨(rd_T32 l0 x4_1).f1.f0, (rd_T32 l0 x4_1).f1.f1⟩ : S29), (rd_T32 l0 x4_1).f2, (⟨(rd_T32 l0 x4_1).f3.f0, (rd_T32 l0 x4_1).f3.f1, (rd_T32 l0 x4_1).f3.f2⟩ : S30)⟩ : S32) [.int .i64 ((rd_T32 l0 x4_1).f0), .int .i64 ((rd_T32 l0 x4_1).f1.f0), .int .i64 ((rd_T32 l0 x4_1).f1.f1), .int .u8 ((rd_T32 l0 x4_1).f2), .int .u8 ((rd_T32 l0 x4_1).f3.f0), .int .u8 ((rd_T32 l0 x4_1).f3.f1), .int .u8 ((rd_T32 l0 x4_1).f3.f2)] (fun k_ => k_ ≠ gb337) (fun _ => False) rfl (by first | (go_simp; done) | (go_simp; rfl)) ?aP (fun _ hk => hk.elim) ?aF ?aO ?aB ?aS ?aL ?_; (case aP => exact k32_mkM _ _ _ (⟨(rd_T32 l0 x4_1).f0, (⟨(rd_T32 l0 x4_1).f1.f0, (rd_T32 l0 x4_1).f1.f1⟩ : S29), (rd_T32 l0 x4_1).f2, (⟨(rd_T32 l0 x4_1).f3.f0, (rd_T32 l0 x4_1).f3.f1, (rd_T32 l0 x4_1).f3.f2⟩ : S30)⟩ : S32)); (case aB => exact bS); (case aF => exact (fun k_ hk => Kd.freshB (g := gb337) (o := .cells #[.int .i64 ((rd_T32 l0 x4_1).f0), .int .i64 ((rd_T32 l0 x4_1).f1.f0), .int .i64 ((rd_T32 l0 x4_1).f1.f1), .int .u8 ((rd_T32 l0 x4_1).f2), .int .u8 ((rd_T32 l0 x4_1).f3.f0), .int .u8 ((rd_T32 l0 x4_1).f3.f1), .int .u8 ((rd_T32 l0 x4_1).f3.f2)] 32 (0, 0)) (kp BK337) k_ hk)); (case aO => exact (by (with_reducible repeat (first | apply rA | apply rN | apply rD)); exact Kd.R_mono (rK (Kd.R_mono HO_3.out (fun k_ hk => (⟨hk, hk.2⟩ : _ ∧ k_ ≠ gb337)))) (fun _ hk => hk.1.2))); (case aS => exact (below_size bS)); (case aL => have := LMc13.out; omega); intro v350 w16 ho hb hg hat; rw [← Ny349.out] at ho; replace BK337 := aS (blk_grown (g := gb337) (o := .cells #[.int .i64 ((rd_T32 l0 x4_1).f0), .int .i64 ((rd_T32 l0 x4_1).f1.f0), .int .i64 ((rd_T32 l0 x4_1).f1.f1), .int .u8 ((rd_T32 l0 x4_1).f2), .int .u8 ((rd_T32 l0 x4_1).f3.f0), .int .u8 ((rd_T32 l0 x4_1).f3.f1), .int .u8 ((rd_T32 l0 x4_1).f3.f2)] 32 (0, 0)) (kp BK337) hg (Kd.R_away HO_3.out (fun _ hk => hk.2))); replace HB := aS (hb); have HO351 := aS (ho); clear HO_3; clear ho hb hg hat))
     go_roundg k1
     case measure => have := HK1.out; omega
     case rel => exact ⟨(y349), (wrap64 (x4_1 + 1)), fS, H', ⟨by have := HK1.out; omega⟩, ⟨by (with_reducible repeat (first | apply rA | apply rN | apply rD)); exact Kd.R_mono HO351.out (fun _ hk => trivial)⟩, ⟨bS⟩⟩
   ·rw [if_neg c2] at H
    have c2b0 : decide (x4_1 < (l0.length : Int)) = false := decide_eq_false c2
    clear c2
    obtain rfl := Option.some.inj H
    go_wp2
    go_ret
    exact ⟨_, by first | rfl | (simp <;> rfl) | (simp [*] <;> rfl), rr HO_3, bB⟩
def prolepsisref07_Has.f (l0_0 : List (List (S32))) (a0_1 : Int) (a0_2 : Int) (a1 : Int) : Option (Bool) := if a1 ≥ 0 then (some (decide (a1 < (l0_0.length : Int)))) else (some false)
set_option maxHeartbeats 8000000 in
set_option maxRecDepth 100000 in
theorem prolepsisref07_Has.calls (A0_0 : Option Addr) (c0_0 : Nat) (l0_0 : List (List (S32))) (a0_1 : Int) (a0_2 : Int) (a1 : Int) (r : Bool) (w : World) (hr0_0 : Kd.C (Kd.slice 32 k32) w A0_0 l0_0.length l0_0) (hc0_0 : l0_0.length ≤ c0_0) (h : prolepsisref07_Has.f l0_0 a0_1 a0_2 a1 = some r) :
 Calls Try.prog 131 #[.agg #[.slice A0_0 l0_0.length c0_0, .int .i64 a0_1, .int .i64 a0_2], .int .i64 a1] w fun e w' => e = .returned (.bool r) ∧ Below w.heap.size w w' := by
 have hu108 := Try.underlying108
 have HR0_0 := aS hr0_0
 have HC0_0 := aS hc0_0
 clear hr0_0 hc0_0
 have HB := aS (Below.refl w.heap.size w)
 have H : (if a1 ≥ 0 then (some (decide (a1 < (l0_0.length : Int)))) else (some false)) = some r := h
 clear h
 by_cases c3 : a1 ≥ 0
 ·rw [if_pos c3] at H
  have c3b0 : decide (0 ≤ a1) = true := decide_eq_true c3
  clear c3
  obtain rfl := Option.some.inj H
  go_enter Try.func131, Try.ntmps131
  go_wp2_with (first | ((with_reducible refine gate_dst (N := 2) rfl ?_); (try (refine gate_guard (by rfl) ?_; dsimp only)); refine bx 2 #[.slice A0_0 l0_0.length c0_0, .int .i64 a0_1, .int .i64 a0_2] 108 ?_; intro gb352 hg w4 hbox hb; have BK352 := aS (hbox); have GW352 := aS (gw HB hg); have GE352 := aS (gw HB hg); replace HB := aS (below_step bB hb); clear hb hbox hg; have hz5 := cel3 BK352.out))
  go_ret
  exact ⟨by first | rfl | (simp <;> rfl) | (simp [*] <;> rfl), bS⟩
 ·rw [if_neg c3] at H
  have c3b0 : decide (0 ≤ a1) = false := decide_eq_false c3
  clear c3
  obtain rfl := Option.some.inj H
  go_enter Try.func131, Try.ntmps131
  go_wp2_with (first | ((with_reducible refine gate_dst (N := 2) rfl ?_); (try (refine gate_guard (by rfl) ?_; dsimp only)); refine bx 2 #[.slice A0_0 l0_0.length c0_0, .int .i64 a0_1, .int .i64 a0_2] 108 ?_; intro gb352 hg w6 hbox hb; have BK352 := aS (hbox); have GW352 := aS (gw HB hg); have GE352 := aS (gw HB hg); replace HB := aS (below_step bB hb); clear hb hbox hg))
  go_ret
  exact ⟨by first | rfl | (simp <;> rfl) | (simp [*] <;> rfl), bS⟩
def prolepsisref07_with.l0 : Nat → Int → List (S32) → List (List (S32)) → Int → List (List (S32)) → Int → Int → Option ((List (List (S32))) × Int × Int)
 | 0, _, _, _, _, _, _, _ => none
 | k + 1, x1, x2, x7, x8, x354000, x354001, x354002 => if x8 < (x354000.length : Int) then (if x8 = x1 then ((some (([] : List (S32)) : List (S32))).bind fun y355 => (if y355.length + x2.length < 4398046511104 then (if x7.length < 5864062014805 then (prolepsisref07_with.l0 k x1 x2 (x7 ++ [(y355 ++ x2)]) (wrap64 (x8 + 1)) x354000 x354001 x354002) else (none)) else (none))) else (if 0 ≤ x8 then (if x7.length < 5864062014805 then (prolepsisref07_with.l0 k x1 x2 (x7 ++ [rd_L9 x354000 x8]) (wrap64 (x8 + 1)) x354000 x354001 x354002) else (none)) else (none))) else (some (x7, x354001, x354002))
def prolepsisref07_with.f (k : Nat) (l0_0 : List (List (S32))) (a0_1 : Int) (a0_2 : Int) (a1 : Int) (l2 : List (S32)) : Option ((List (List (S32))) × Int × Int) := prolepsisref07_with.l0 k a1 l2 ([] : List (List (S32))) 0 l0_0 a0_1 a0_2
set_option maxHeartbeats 8000000 in
set_option maxRecDepth 100000 in
theorem prolepsisref07_with.calls (k : Nat) (P0_0_ : Nat → Prop) (A0_0 : Option Addr) (c0_0 : Nat) (l0_0 : List (List (S32))) (a0_1 : Int) (a0_2 : Int) (a1 : Int) (A2 : Option Addr) (c2 : Nat) (l2 : List (S32)) (r1 : List (List (S32))) (r2 : Int) (r3 : Int) (w : World) (hs0_0 : Kd.V (Kd.slice 32 k32) 67 w w.heap.size (fun k_ => P0_0_ k_) (.slice A0_0 l0_0.length c0_0) l0_0) (hr2 : Kd.C k32 w A2 l2.length l2) (hc2 : l2.length ≤ c2) (h : prolepsisref07_with.f k l0_0 a0_1 a0_2 a1 l2 = some (r1, r2, r3)) :
 Calls Try.prog 132 #[.agg #[.slice A0_0 l0_0.length c0_0, .int .i64 a0_1, .int .i64 a0_2], .int .i64 a1, .slice A2 l2.length c2] w fun e w' => ∃ v0_ : Value, e = .returned (.agg #[v0_, .int .i64 r2, .int .i64 r3]) ∧ Kd.N (Kd.slice 32 k32) 67 w' w.heap.size (fun k_ => (P0_0_ k_ ∨ w.heap.size ≤ k_)) v0_ r1 ∧ Below w.heap.size w w' := by
 have hu108 := Try.underlying108
 have HO0_0 := aS (show Kd.V (Kd.slice 32 k32) 67 w w.heap.size (fun k_ => (P0_0_ k_ ∨ w.heap.size ≤ k_)) (.slice A0_0 l0_0.length c0_0) l0_0 from Kd.V_mono hs0_0 (fun k_ hk => .inl hk))
 have HR2 := aS hr2
 have HC2 := aS hc2
 clear hr2 hc2
 have HB := aS (Below.refl w.heap.size w)
 have H : (prolepsisref07_with.l0 k a1 l2 ([] : List (List (S32))) 0 l0_0 a0_1 a0_2) = some (r1, r2, r3) := h
 clear h
 have H' := aS H
 clear H
 go_enter Try.func132, Try.ntmps132
 go_wp2_with (first | (refine bx 3 #[.slice A0_0 l0_0.length c0_0, .int .i64 a0_1, .int .i64 a0_2] 108 ?_; intro gb353 hg w4 hbox hb; replace HO0_0 := aS (Kd.V_below (Kd.V_elderB (rv HO0_0) gb353 (Nat.le_of_eq hg.symm)) hb); have BK353 := aS (hbox); have GW353 := aS (gw HB hg); have GE353 := aS (gw HB hg); replace HB := aS (below_step bB hb); clear hb hbox hg) | (refine bx 6 #[.slice none 0 0, .int .i64 0, .int .i64 0] 108 ?_; intro gb354 hg w5 hbox hb; replace HO0_0 := aS (Kd.V_below (Kd.V_elderB (rv HO0_0) gb354 (Nat.le_of_eq hg.symm)) hb); have BK354 := aS (hbox); have GW354 := aS (gw HB hg); have GE354 := aS (gw HB hg); replace HB := aS (below_step bS hb); have NB353_354 := aS ((by rw [hg]; exact Nat.ne_of_lt (blk_lt (kb BK353)) : gb353 ≠ gb354)); have NB354_353 := aS ((by rw [hg]; exact Nat.ne_of_gt (blk_lt (kb BK353)) : gb354 ≠ gb353)); replace BK353 := aS (blk_below (kb BK353) hb); clear hb hbox hg))
 go_loopg [7, 8] k (fun kq v7 v8 w' => ∃ (x7_1 : List (List (S32))) (x8_1 : Int), v8 = .int .i64 x8_1 ∧ Aside0 (prolepsisref07_with.l0 kq a1 l2 x7_1 x8_1 l0_0 a0_1 a0_2 = some (r1, r2, r3)) ∧ Aside0 (kq ≤ k) ∧ Aside0 (Kd.N (Kd.slice 32 k32) 67 w' w.heap.size (fun k_ => (P0_0_ k_ ∨ w.heap.size ≤ k_) ∧ k_ ≠ gb353 ∧ k_ ≠ gb354) v7 x7_1) ∧ Aside0 (Kd.V (Kd.slice 32 k32) 67 w' w.heap.size (fun k_ => (P0_0_ k_ ∨ w.heap.size ≤ k_) ∧ some k_ ≠ (v7 : Value).ownBlock ∧ k_ ≠ gb353 ∧ k_ ≠ gb354) (.slice A0_0 l0_0.length c0_0) l0_0) ∧ Aside0 (w'.heap[gb353]? = some (.cells #[(.slice A0_0 l0_0.length c0_0), .int .i64 a0_1, .int .i64 a0_2] 108 (0, 0))) ∧ Aside0 (w'.heap[gb354]? = some (.cells #[(.slice none 0 0), .int .i64 0, .int .i64 0] 108 (0, 0))) ∧ Aside0 (Below w.heap.size w w'))
 case atStart => exact ⟨(([] : List (List (S32)))), (0), fS, H', ⟨Nat.le_refl _⟩, ⟨by first | exact Kd.S_nil _ _ _ _ _ | exact Kd.N_nil _ _ _ _ _ | exact Kd.V_nil _ _ _ _ _ | exact Kd.Q_nil _ _ _ _ _ | exact Kd.R_nil _ _ _ _ _⟩, ⟨by (with_reducible repeat (first | apply Kd.V_alloc | apply Kd.V_drewN | apply Kd.V_drew)); exact Kd.V_mono HO0_0.out (fun _ hk => ⟨hk.1.1, ⟨(by simp [Value.ownBlock]), ⟨hk.1.2, hk.2⟩⟩⟩)⟩, ⟨kb BK353⟩, ⟨kb BK354⟩, ⟨bS⟩⟩
 case round =>
  clear H'
  try clear c1
  try clear c2
  try clear p2
  obtain ⟨x7_1, x8_1, rfl, HA, HK1, HO_7, HO_354000, BK353, BK354, HB⟩ := hrel
  cases gk with
  | zero => exact absurd HA.out (by simp [prolepsisref07_with.l0])
  | succ k1 =>
   have H := HA.out
   clear HA
   simp only [prolepsisref07_with.l0] at H
   by_cases c6 : x8_1 < (l0_0.length : Int)
   ·rw [if_pos c6] at H
    have c6b0 : decide (x8_1 < (l0_0.length : Int)) = true := decide_eq_true c6
    clear c6
    by_cases c7 : x8_1 = a1
    ·rw [if_pos c7] at H
     have c7b0 : (x8_1 == a1) = true := beq_iff_eq.mpr c7
     have c7b1 : (x8_1 != a1) = false := bne_eq_false_iff_eq.mpr c7
     clear c7
     obtain ⟨y355, hy355⟩ : ∃ y_ : List (S32), y_ = (([] : List (S32))) := ⟨_, rfl⟩
     replace H : (if y355.length + l2.length < 4398046511104 then (if x7_1.length < 5864062014805 then (prolepsisref07_with.l0 k1 a1 l2 (x7_1 ++ [(y355 ++ l2)]) (wrap64 (x8_1 + 1)) l0_0 a0_1 a0_2) else (none)) else (none)) = some (r1, r2, r3) := rq hy355 H
     have Ny355 := aS hy355
     clear hy355
     obtain ⟨c8, H⟩ := ifS H
     have LMc8 := aS c8
     clear c8
     obtain ⟨y358, hy358⟩ : ∃ y_ : List (S32), y_ = (y355 ++ l2) := ⟨_, rfl⟩
     replace H : (if x7_1.length < 5864062014805 then (prolepsisref07_with.l0 k1 a1 l2 (x7_1 ++ [y358]) (wrap64 (x8_1 + 1)) l0_0 a0_1 a0_2) else (none)) = some (r1, r2, r3) := rq hy358 H
     have Ny358 := aS hy358
     clear hy358
     obtain ⟨c9, H⟩ := ifS H
     have LMc9 := aS c9
     clear c9
     obtain ⟨y361, hy361⟩ : ∃ y_ : List (List (S32)), y_ = (x7_1 ++ [y358]) := ⟨_, rfl⟩
     replace H : (prolepsisref07_with.l0 k1 a1 l2 y361 (wrap64 (x8_1 + 1)) l0_0 a0_1 a0_2) = some (r1, r2, r3) := rq hy361 H
     have Ny361 := aS hy361
     clear hy361
     have H' := aS H
     clear H
     have hnb10 := NB353_354.out
     have hnc10 := NB354_353.out
     have hz11 := cel3 BK353.out
     go_wp2_with (first | ((with_reducible refine gate_dst (N := 20) rfl ?_); refine Kd.R_lit k32 _ 32 ?hg (N := 20) ?hd (xs := ([] : List (S32))) (inner := []) (ok := fun _ => True) (okp := fun _ => True) ?hr ?hp (fun _ hk => hk) trivial (Below.refl _ _) (Nat.le_refl _) (by simp) ?_; (case hd => rfl); (case hg => rfl); (case hr => first | (go_simp; done) | (go_simp; rfl)); (case hp => exact (Reps.none _ _)); intro v356 w12 ho13 hb hg_ hnew_; clear hg_ hnew_; (first | rw [← Ny355.out] at ho13 | (simp only [Int.reduceToNat] at ho13; rw [← Ny355.out] at ho13)); replace HO_7 := aS (Kd.N_elder' (by (with_reducible repeat (first | apply Kd.N_alloc | apply Kd.N_drewN | apply Kd.N_drew)); exact HO_7.out) (Kd.R_base ho13) hb); replace HO_354000 := aS (Kd.V_elder' (rv HO_354000) (Kd.R_base ho13) hb); have HO357 := aS (Kd.R_lower (Kd.R_newM (M := fun k_ => (w.heap.size ≤ k_)) ho13 (below_size bS) (fun k_ h_ => h_)) (below_size bS)); replace BK353 := aS (blk_below (kb BK353) hb); replace BK354 := aS (blk_below (kb BK354) hb); replace HB := aS (below_step bS hb); clear hb ho13) | ((with_reducible refine gate_builtin (b := .append) (xs := #[.tmp 20, .tmp 21]) rfl ?_); at_builtin; refine Kd.R_append_rows k32 (w0 := w) w.heap.size rfl (.tmp 20) (.tmp 21) 67 32 (.agg #[(.int .i64 0), (.int .i64 0), (.int .i64 0), (.int .u8 0), (.int .u8 0), (.int .u8 0), (.int .u8 0)]) 32 rfl Try.underlying67 info32 rfl (by decide) (by omega) v356 y355 l2 _ _ _ (fun k_ => (w.heap.size ≤ k_)) (fun _ => False) rfl rfl ?aO ?aR (fun _ _ h => h) (fun _ h => h.elim) ?aF ?aB ?aS ?aL ?_; (case aR => repeat (first | exact (Kd.C_below HR2.out HB.out) | (with_reducible refine Kd.C_alloc ?_ _) | (with_reducible refine Kd.C_drewN ?_ _) | (with_reducible refine Kd.C_drew ?_))); (case aB => exact bS); (case aF => exact (fun k_ hk => (Nat.le_trans (below_size bS) hk))); (case aO => exact (by (with_reducible repeat (first | apply rA | apply rN | apply rD)); exact Kd.R_mono HO357.out (fun _ hk => hk.1))); (case aS => exact (below_size bS)); (case aL => have := LMc8.out; omega); intro v359 w14 ho hb hg hat; rw [← Ny358.out] at ho; replace HO_7 := aS (Kd.N_afterv (ok := (fun k_ => (P0_0_ k_ ∨ w.heap.size ≤ k_) ∧ k_ ≠ gb353 ∧ k_ ≠ gb354)) (by (with_reducible repeat (first | apply Kd.N_alloc | apply Kd.N_drewN | apply Kd.N_drew)); exact HO_7.out) hg hat); replace HO_354000 := aS (Kd.V_afterv (ok := (fun k_ => (P0_0_ k_ ∨ w.heap.size ≤ k_) ∧ some k_ ≠ (u7 : Value).ownBlock ∧ k_ ≠ gb353 ∧ k_ ≠ gb354)) (rv HO_354000) hg hat); replace BK353 := aS (blk_grown (kb BK353) hg (Kd.R_ne HO357.out BK353.out (by decide))); replace BK354 := aS (blk_grown (kb BK354) hg (Kd.R_ne HO357.out BK354.out (by decide))); replace HB := aS (hb); have HO360 := aS (ho); clear HO357; clear ho hb hg hat; obtain ⟨Ao16, co16, eo16⟩ := Kd.R_slice HO360.out; subst eo16) | ((with_reducible refine gate_builtin (b := .append) (xs := #[.tmp 19, .tmp 23]) rfl ?_); at_builtin; refine Kd.N_append (Kd.slice 32 k32) (w0 := w) w.heap.size rfl (.tmp 19) (.tmp 23) 106 67 (.slice none 0 0) 24 rfl Try.underlying106 info67 rfl (by decide) (by omega) u7 x7_1 y358 [.slice Ao16 y358.length co16] (fun k_ => (P0_0_ k_ ∨ w.heap.size ≤ k_) ∧ k_ ≠ gb353 ∧ k_ ≠ gb354) (fun k_ => ((fun k_ => (P0_0_ k_ ∨ w.heap.size ≤ k_) ∧ k_ ≠ gb353 ∧ k_ ≠ gb354)) k_ ∧ some k_ ≠ (u7 : Value).ownBlock) rfl rfl ?aP (fun _ hk => hk) ?aF ?aO ?aB ?aS ?aL ?_; (case aP => exact (Kd.FK_slice_mk (Kd.R_reads' (Kd.R_mono (ok' := (fun k_ => ((fun k_ => (P0_0_ k_ ∨ w.heap.size ≤ k_) ∧ k_ ≠ gb353 ∧ k_ ≠ gb354)) k_ ∧ some k_ ≠ (u7 : Value).ownBlock)) (Kd.R_types (Kd.R_types (Kd.R_apart' (HO360.out) (Kd.N_typed HO_7.out) (by decide)) BK353.out (by decide)) BK354.out (by decide)) (fun k_ hk => ⟨⟨(.inr (hk.1.1.1)), ⟨hk.1.2, hk.2⟩⟩, hk.1.1.2⟩))).2.1 (Kd.R_F (Kd.R_mono (ok' := (fun k_ => ((fun k_ => (P0_0_ k_ ∨ w.heap.size ≤ k_) ∧ k_ ≠ gb353 ∧ k_ ≠ gb354)) k_ ∧ some k_ ≠ (u7 : Value).ownBlock)) (Kd.R_types (Kd.R_types (Kd.R_apart' (HO360.out) (Kd.N_typed HO_7.out) (by decide)) BK353.out (by decide)) BK354.out (by decide)) (fun k_ hk => ⟨⟨(.inr (hk.1.1.1)), ⟨hk.1.2, hk.2⟩⟩, hk.1.1.2⟩))))); (case aB => exact bS); (case aF => exact (fun k_ hk => ⟨(.inr (Nat.le_trans (below_size bS) hk)), Kd.freshB (kb BK353) k_ hk, Kd.freshB (kb BK354) k_ hk⟩)); (case aO => exact (by (with_reducible repeat (first | apply Kd.N_alloc | apply Kd.N_drewN | apply Kd.N_drew)); exact Kd.N_mono HO_7.out (fun _ hk => ⟨hk.1.1, ⟨hk.1.2.1, hk.1.2.2⟩⟩))); (case aS => exact (below_size bS)); (case aL => have := LMc9.out; omega); intro v362 w15 ho hb hg hat; rw [← Ny361.out] at ho; replace HO_354000 := aS (Kd.V_afterv (ok := (fun k_ => (P0_0_ k_ ∨ w.heap.size ≤ k_) ∧ some k_ ≠ (.slice Ao16 y358.length co16 : Value).ownBlock ∧ k_ ≠ gb353 ∧ k_ ≠ gb354)) (by (with_reducible repeat (first | apply Kd.V_alloc | apply Kd.V_drewN | apply Kd.V_drew)); exact Kd.V_mono HO_354000.out (fun _ hk => ⟨⟨hk.1.1, ⟨hk.2, ⟨hk.1.2.2.1, hk.1.2.2.2⟩⟩⟩, hk.1.2.1⟩)) hg hat); replace BK353 := aS (blk_grown (kb BK353) hg (Kd.N_ne HO_7.out BK353.out (by decide))); replace BK354 := aS (blk_grown (kb BK354) hg (Kd.N_ne HO_7.out BK354.out (by decide))); replace HB := aS (hb); have HO363 := aS (ho); clear HO_7 HO360; clear ho hb hg hat))
     go_roundg k1
     case measure => have := HK1.out; omega
     case rel => exact ⟨(y361), (wrap64 (x8_1 + 1)), fS, H', ⟨by have := HK1.out; omega⟩, ⟨by (with_reducible repeat (first | apply Kd.N_alloc | apply Kd.N_drewN | apply Kd.N_drew)); exact HO363.out⟩, ⟨by (with_reducible repeat (first | apply Kd.V_alloc | apply Kd.V_drewN | apply Kd.V_drew)); exact Kd.V_mono HO_354000.out (fun _ hk => ⟨hk.1.1, ⟨hk.2, ⟨hk.1.2.2.1, hk.1.2.2.2⟩⟩⟩)⟩, ⟨kb BK353⟩, ⟨kb BK354⟩, ⟨bS⟩⟩
    ·rw [if_neg c7] at H
     have c7b0 : (x8_1 == a1) = false := beq_eq_false_iff_ne.mpr c7
     have c7b1 : (x8_1 != a1) = true := bne_iff_ne.mpr c7
     obtain ⟨c17, H⟩ := ifS H
     have c17b0 : decide (0 ≤ x8_1) = true := decide_eq_true c17
     clear c17
     obtain ⟨c18, H⟩ := ifS H
     have LMc18 := aS c18
     clear c18
     obtain ⟨y365, hy365⟩ : ∃ y_ : List (List (S32)), y_ = (x7_1 ++ [rd_L9 l0_0 x8_1]) := ⟨_, rfl⟩
     replace H : (prolepsisref07_with.l0 k1 a1 l2 y365 (wrap64 (x8_1 + 1)) l0_0 a0_1 a0_2) = some (r1, r2, r3) := rq hy365 H
     have Ny365 := aS hy365
     clear hy365
     have H' := aS H
     clear H
     have hnb19 := NB353_354.out
     have hnc19 := NB354_353.out
     have hz20 := cel3 BK353.out
     have p364 : 0 ≤ (x8_1 : Int) := dA
     have q364 : x8_1 < (l0_0.length : Int) := dA
     obtain ⟨ad364, A364_0, c364_0, e364, hx364_0, hl364_0, hi364_0⟩ := at_L9 (Kd.V_reads' HO_354000.out).2.2 x8_1 p364 q364
     cases e364
     obtain ⟨ce364, hce364, hMe364, hcc364⟩ := Kd.V_get HO_354000.out [] x8_1 p364 (by first | exact q364 | exact dA | (have e_ := (Kd.V_reads' HO_354000.out).1; omega))
     obtain ⟨ua364_0, uc364_0, rfl, ul364_0, ge364_0⟩ := Kd.FK_slice_open hMe364
     have hv364_0 := hcc364 0 _ rfl
     rw [Nat.add_zero, show ((Kd.slice 32 k32)).sz = 1 from rfl, Nat.mul_one] at hv364_0
     replace hv364_0 := Option.some.inj (hv364_0.symm.trans hx364_0)
     injection hv364_0 with hva_ hvn_ hvc_
     rw [hva_] at ge364_0
     rw [hvc_] at ul364_0
     have HL364_0 := aS (show Kd.V k32 32 _ w.heap.size _ _ (rd_L9 l0_0 x8_1) from Kd.V_mk ul364_0 ge364_0)
     clear hva_ hvn_ hvc_ ge364_0 ul364_0
     clear hcc364 hce364
     have HR364_0 := aS hi364_0
     have HC364_0 := aS hl364_0
     clear hi364_0 hl364_0
     replace p364 := eq_true p364
     replace q364 := eq_true q364
     go_wp2_with (first | ((with_reducible refine gate_builtin (b := .append) (xs := #[.tmp 25, .tmp 31]) rfl ?_); at_builtin; refine Kd.N_append (Kd.slice 32 k32) (w0 := w) w.heap.size rfl (.tmp 25) (.tmp 31) 106 67 (.slice none 0 0) 24 rfl Try.underlying106 info67 rfl (by decide) (by omega) u7 x7_1 (rd_L9 l0_0 x8_1) [.slice A364_0 (rd_L9 l0_0 x8_1).length c364_0] (fun k_ => (P0_0_ k_ ∨ w.heap.size ≤ k_) ∧ k_ ≠ gb353 ∧ k_ ≠ gb354) (fun k_ => ((fun k_ => (P0_0_ k_ ∨ w.heap.size ≤ k_) ∧ k_ ≠ gb353 ∧ k_ ≠ gb354)) k_ ∧ some k_ ≠ (u7 : Value).ownBlock) rfl rfl ?aP (fun _ hk => hk) ?aF ?aO ?aB ?aS ?aL ?_; (case aP => exact (Kd.FK_slice_mk (Kd.V_reads' (Kd.V_mono (ok' := (fun k_ => ((fun k_ => (P0_0_ k_ ∨ w.heap.size ≤ k_) ∧ k_ ≠ gb353 ∧ k_ ≠ gb354)) k_ ∧ some k_ ≠ (u7 : Value).ownBlock)) (HL364_0.out) (fun k_ hk => ⟨⟨hk.1, ⟨hk.2.2.1, hk.2.2.2⟩⟩, hk.2.1⟩))).2.1 (Kd.V_F (Kd.V_mono (ok' := (fun k_ => ((fun k_ => (P0_0_ k_ ∨ w.heap.size ≤ k_) ∧ k_ ≠ gb353 ∧ k_ ≠ gb354)) k_ ∧ some k_ ≠ (u7 : Value).ownBlock)) (HL364_0.out) (fun k_ hk => ⟨⟨hk.1, ⟨hk.2.2.1, hk.2.2.2⟩⟩, hk.2.1⟩))))); (case aB => exact bS); (case aF => exact (fun k_ hk => ⟨(.inr (Nat.le_trans (below_size bS) hk)), Kd.freshB (kb BK353) k_ hk, Kd.freshB (kb BK354) k_ hk⟩)); (case aO => exact (by (with_reducible repeat (first | apply Kd.N_alloc | apply Kd.N_drewN | apply Kd.N_drew)); exact HO_7.out)); (case aS => exact (below_size bS)); (case aL => have := LMc18.out; omega); intro v366 w21 ho hb hg hat; rw [← Ny365.out] at ho; replace HO_354000 := aS (Kd.V_afterv (ok := (fun k_ => (P0_0_ k_ ∨ w.heap.size ≤ k_) ∧ k_ ≠ gb353 ∧ k_ ≠ gb354)) (by (with_reducible repeat (first | apply Kd.V_alloc | apply Kd.V_drewN | apply Kd.V_drew)); exact Kd.V_mono HO_354000.out (fun _ hk => ⟨⟨hk.1, ⟨hk.2.2.1, hk.2.2.2⟩⟩, hk.2.1⟩)) hg hat); replace BK353 := aS (blk_grown (kb BK353) hg (Kd.N_ne HO_7.out BK353.out (by decide))); replace BK354 := aS (blk_grown (kb BK354) hg (Kd.N_ne HO_7.out BK354.out (by decide))); replace HL364_0 := aS (Kd.V_afterv (ok := (fun k_ => (P0_0_ k_ ∨ w.heap.size ≤ k_) ∧ k_ ≠ gb353 ∧ k_ ≠ gb354)) (by (with_reducible repeat (first | apply Kd.V_alloc | apply Kd.V_drewN | apply Kd.V_drew)); exact Kd.V_mono HL364_0.out (fun _ hk => ⟨⟨hk.1, ⟨hk.2.2.1, hk.2.2.2⟩⟩, hk.2.1⟩)) hg hat); replace HB := aS (hb); have HO367 := aS (ho); clear HO_7; clear ho hb hg hat))
     go_roundg k1
     case measure => have := HK1.out; omega
     case rel => exact ⟨(y365), (wrap64 (x8_1 + 1)), fS, H', ⟨by have := HK1.out; omega⟩, ⟨by (with_reducible repeat (first | apply Kd.N_alloc | apply Kd.N_drewN | apply Kd.N_drew)); exact HO367.out⟩, ⟨by (with_reducible repeat (first | apply Kd.V_alloc | apply Kd.V_drewN | apply Kd.V_drew)); exact Kd.V_mono HO_354000.out (fun _ hk => ⟨hk.1.1, ⟨hk.2, ⟨hk.1.2.1, hk.1.2.2⟩⟩⟩)⟩, ⟨kb BK353⟩, ⟨kb BK354⟩, ⟨bS⟩⟩
   ·rw [if_neg c6] at H
    have c6b0 : decide (x8_1 < (l0_0.length : Int)) = false := decide_eq_false c6
    clear c6
    simp only [Option.some.injEq, Prod.mk.injEq] at H
    obtain ⟨rfl, rfl, rfl⟩ := H
    have hnb22 := NB353_354.out
    have hnc22 := NB354_353.out
    have hz23 := cel3 BK353.out
    obtain ⟨Ao24, co24, eo24⟩ := Kd.N_slice HO_7.out
    subst eo24
    have hz25 := cel3 BK354.out
    go_wp2
    refine bodyPost_ret (results_cell_row rfl _ _ gb354 108 #[.slice Ao24 x7_1.length co24, .int .i64 a0_1, .int .i64 a0_2] (0, 0) _ rfl (kp BK354) Try.underlying108 rfl (by kernel_rfl)) rfl ?_
    exact ⟨_, by first | rfl | (simp <;> rfl) | (simp [*] <;> rfl), by (with_reducible repeat (first | apply Kd.N_alloc | apply Kd.N_drewN | apply Kd.N_drew)); exact Kd.N_mono (Kd.N_far (p := ⟨gb354, 2, none⟩) (Kd.N_far (p := ⟨gb354, 1, none⟩) (Kd.N_far (p := ⟨gb354, 0, none⟩) (Kd.N_mono HO_7.out (fun k_ hk => (⟨hk, hk.2.2⟩ : _ ∧ k_ ≠ gb354))) (fun _ hk => hk.2) (.slice Ao24 x7_1.length co24)) (fun _ hk => hk.2) (.int .i64 a0_1)) (fun _ hk => hk.2) (.int .i64 a0_2)) (fun _ hk => hk.1.1), bS⟩
def prolepsisref05_Mark.j0 : Nat → Int → Bool → Int → Int → Int → Int → Int → Int → Int → Option (Int × Int × Int × Int × Int × Int × Int × Bool)
 | 0, _, _, _, _, _, _, _, _, _ => none
 | k + 1, x1, x18, x369000, x369001, x369002, x369003, x369004, x369005, x369006 => if x18 = true then (some (x369000, x369001, x369002, x369003, x369004, x369005, x369006, false)) else (if x369001 = 0 then (some (x369000, x1, x369002, x369003, x369004, x369005, x369006, true)) else (if x369002 = 0 then (some (x369000, x369001, x1, x369003, x369004, x369005, x369006, true)) else (some (x369000, x369001, x369002, x369003, x369004, x369005, x369006, false))))
def prolepsisref05_Mark.f (k : Nat) (a0_0 : Int) (a0_1 : Int) (a0_2 : Int) (a0_3 : Int) (a0_4 : Int) (a0_5 : Int) (a0_6 : Int) (a1 : Int) : Option (Int × Int × Int × Int × Int × Int × Int × Bool) := (prolepsisref03_Of.f k a1).bind fun t370 => (if t370 = 0 then (if a0_3 = 1 then (prolepsisref05_Mark.j0 k a1 false a0_0 a0_1 a0_2 a0_3 a0_4 a0_5 a0_6) else (prolepsisref05_Mark.j0 k a1 (a0_3 != 2) a0_0 a0_1 a0_2 a0_3 a0_4 a0_5 a0_6)) else (prolepsisref05_Mark.j0 k a1 true a0_0 a0_1 a0_2 a0_3 a0_4 a0_5 a0_6))
set_option maxHeartbeats 8000000 in
set_option maxRecDepth 100000 in
theorem prolepsisref05_Mark.calls (k : Nat) (a0_0 : Int) (a0_1 : Int) (a0_2 : Int) (a0_3 : Int) (a0_4 : Int) (a0_5 : Int) (a0_6 : Int) (a1 : Int) (r1 : Int) (r2 : Int) (r3 : Int) (r4 : Int) (r5 : Int) (r6 : Int) (r7 : Int) (r8 : Bool) (w : World) (h : prolepsisref05_Mark.f k a0_0 a0_1 a0_2 a0_3 a0_4 a0_5 a0_6 a1 = some (r1, r2, r3, r4, r5, r6, r7, r8)) :
 Calls Try.prog 17 #[.agg #[.int .i64 a0_0, .int .i64 a0_1, .int .i64 a0_2, .int .u8 a0_3, .int .u8 a0_4, .int .u8 a0_5, .int .u8 a0_6], .int .i64 a1] w fun e w' => e = .returned (.tuple #[.agg #[.int .i64 r1, .int .i64 r2, .int .i64 r3, .int .u8 r4, .int .u8 r5, .int .u8 r6, .int .u8 r7], .bool r8]) ∧ Below w.heap.size w w' := by
 have hu32 := Try.underlying32
 have HB := aS (Below.refl w.heap.size w)
 have H : ((prolepsisref03_Of.f k a1).bind fun t370 => (if t370 = 0 then (if a0_3 = 1 then (prolepsisref05_Mark.j0 k a1 false a0_0 a0_1 a0_2 a0_3 a0_4 a0_5 a0_6) else (prolepsisref05_Mark.j0 k a1 (a0_3 != 2) a0_0 a0_1 a0_2 a0_3 a0_4 a0_5 a0_6)) else (prolepsisref05_Mark.j0 k a1 true a0_0 a0_1 a0_2 a0_3 a0_4 a0_5 a0_6))) = some (r1, r2, r3, r4, r5, r6, r7, r8) := h
 clear h
 have HC3 := aS H
 clear H
 go_enter Try.func17, Try.ntmps17
 go_upto_region 1 with (first | (refine bx 2 #[.int .i64 a0_0, .int .i64 a0_1, .int .i64 a0_2, .int .u8 a0_3, .int .u8 a0_4, .int .u8 a0_5, .int .u8 a0_6] 32 ?_; intro gb368 hg w4 hbox hb; have BK368 := aS (hbox); have GW368 := aS (gw HB hg); have GE368 := aS (gw HB hg); replace HB := aS (below_step bB hb); clear hb hbox hg) | (refine bx 4 #[.int .i64 0, .int .i64 0, .int .i64 0, .int .u8 0, .int .u8 0, .int .u8 0, .int .u8 0] 32 ?_; intro gb369 hg w5 hbox hb; have BK369 := aS (hbox); have GW369 := aS (gw HB hg); have GE369 := aS (gw HB hg); replace HB := aS (below_step bS hb); have NB368_369 := aS ((by rw [hg]; exact Nat.ne_of_lt (blk_lt (kb BK368)) : gb368 ≠ gb369)); have NB369_368 := aS ((by rw [hg]; exact Nat.ne_of_gt (blk_lt (kb BK368)) : gb369 ≠ gb368)); replace BK368 := aS (blk_below (kb BK368) hb); clear hb hbox hg))
 (try simp only [Act.put, List.setIfInBounds_toArray, List.set_cons_zero, List.set_cons_succ])
 go_cut [18] (fun v18 wc => ∃ (kq : Nat) (x18_2 : Bool), v18 = .bool x18_2 ∧ Aside0 (prolepsisref05_Mark.j0 kq a1 x18_2 a0_0 a0_1 a0_2 a0_3 a0_4 a0_5 a0_6 = some (r1, r2, r3, r4, r5, r6, r7, r8)) ∧ Aside0 (kq ≤ k) ∧ Aside0 (wc.heap[gb368]? = some (.cells #[.int .i64 a0_0, .int .i64 a0_1, .int .i64 a0_2, .int .u8 a0_3, .int .u8 a0_4, .int .u8 a0_5, .int .u8 a0_6] 32 (0, 0))) ∧ Aside0 (wc.heap[gb369]? = some (.cells #[.int .i64 0, .int .i64 0, .int .i64 0, .int .u8 0, .int .u8 0, .int .u8 0, .int .u8 0] 32 (0, 0))) ∧ Aside0 (Below w.heap.size w wc))
 case first =>
  have H := HC3.out
  clear HC3
  replace H := Option.bind_eq_some_iff.mp H
  obtain ⟨t370, A60, H⟩ := H
  try dsimp only at H
  have A6 := aS A60
  clear A60
  by_cases c7 : t370 = 0
  ·rw [if_pos c7] at H
   have c7b0 : (t370 == 0) = true := beq_iff_eq.mpr c7
   have c7b1 : (t370 != 0) = false := bne_eq_false_iff_eq.mpr c7
   clear c7
   (first | rw [c7b0] | (simp only [i64_w, i32_w]; rw [c7b0]) | skip)
   by_cases c8 : a0_3 = 1
   ·rw [if_pos c8] at H
    have c8b0 : (a0_3 == 1) = true := beq_iff_eq.mpr c8
    have c8b1 : (a0_3 != 1) = false := bne_eq_false_iff_eq.mpr c8
    clear c8
    have H' := aS H
    clear H
    go_wp2_with (first | (refine gL 85 7 Try.func85 #[.int .i64 a1] ?_; (with_reducible refine (prolepsisref03_Of.calls k a1 t370 _ A6.out).mono ?_); rintro e w9 ⟨rfl, hb⟩; refine ⟨_, rfl, ?_⟩; replace BK368 := aS (blk_below (kb BK368) hb); replace BK369 := aS (blk_below (kb BK369) hb); replace HB := aS (below_step bS hb); (try clear hb); (try clear hb2); (try clear hk); (try clear hi); have hnb10 := NB368_369.out; have hnc10 := NB369_368.out; have hz11 := cel7 BK368.out))
    go_meet
    case rel => exact ⟨_, (false), fS, H', ⟨by first | omega | exact Nat.le_refl _⟩, ⟨kb BK368⟩, ⟨kb BK369⟩, ⟨bS⟩⟩
   ·rw [if_neg c8] at H
    have c8b0 : (a0_3 == 1) = false := beq_eq_false_iff_ne.mpr c8
    have c8b1 : (a0_3 != 1) = true := bne_iff_ne.mpr c8
    have H' := aS H
    clear H
    go_wp2_with (first | (refine gL 85 7 Try.func85 #[.int .i64 a1] ?_; (with_reducible refine (prolepsisref03_Of.calls k a1 t370 _ A6.out).mono ?_); rintro e w12 ⟨rfl, hb⟩; refine ⟨_, rfl, ?_⟩; replace BK368 := aS (blk_below (kb BK368) hb); replace BK369 := aS (blk_below (kb BK369) hb); replace HB := aS (below_step bS hb); (try clear hb); (try clear hb2); (try clear hk); (try clear hi); have hnb13 := NB368_369.out; have hnc13 := NB369_368.out; have hz14 := cel7 BK368.out))
    go_meet
    case rel => exact ⟨_, ((a0_3 != 2)), fS, H', ⟨by first | omega | exact Nat.le_refl _⟩, ⟨kb BK368⟩, ⟨kb BK369⟩, ⟨bS⟩⟩
  ·rw [if_neg c7] at H
   have c7b0 : (t370 == 0) = false := beq_eq_false_iff_ne.mpr c7
   have c7b1 : (t370 != 0) = true := bne_iff_ne.mpr c7
   (first | rw [c7b0] | (simp only [i64_w, i32_w]; rw [c7b0]) | skip)
   have H' := aS H
   clear H
   go_wp2_with (first | (refine gL 85 7 Try.func85 #[.int .i64 a1] ?_; (with_reducible refine (prolepsisref03_Of.calls k a1 t370 _ A6.out).mono ?_); rintro e w15 ⟨rfl, hb⟩; refine ⟨_, rfl, ?_⟩; replace BK368 := aS (blk_below (kb BK368) hb); replace BK369 := aS (blk_below (kb BK369) hb); replace HB := aS (below_step bS hb); (try clear hb); (try clear hb2); (try clear hk); (try clear hi)))
   go_meet
   case rel => exact ⟨_, (true), fS, H', ⟨by first | omega | exact Nat.le_refl _⟩, ⟨kb BK368⟩, ⟨kb BK369⟩, ⟨bS⟩⟩
 case rest =>
  clear HC3
  try clear c1
  try clear p2
  try clear c7
  try clear c7b0
  try clear c7b1
  try clear c8
  try clear c8b0
  try clear c8b1
  try clear c10
  try clear c13
  try clear hz11
  try clear hz14
  obtain ⟨kq, x18_2, rfl, HA, HJ2, BK368, BK369, HB⟩ := hcut
  cases kq with
  | zero => exact absurd HA.out (by simp [prolepsisref05_Mark.j0])
  | succ kj2 =>
   have H := HA.out
   clear HA
   simp only [prolepsisref05_Mark.j0] at H
   by_cases c16 : x18_2 = true
   ·subst c16
    have H1 : (some (a0_0, a0_1, a0_2, a0_3, a0_4, a0_5, a0_6, false)) = some (r1, r2, r3, r4, r5, r6, r7, r8) := by rw [if_pos rfl] at H; exact H
    clear H
    have H := H1
    clear H1
    simp only [Option.some.injEq, Prod.mk.injEq] at H
    obtain ⟨rfl, rfl, rfl, rfl, rfl, rfl, rfl, rfl⟩ := H
    have hnb17 := NB368_369.out
    have hnc17 := NB369_368.out
    have hz18 := cel7 BK368.out
    have hz19 := cel7 BK369.out
    go_wp2
    refine bodyPost_ret (results_ct rfl _ _ gb369 32 #[.int .i64 a0_0, .int .i64 a0_1, .int .i64 a0_2, .int .u8 a0_3, .int .u8 a0_4, .int .u8 a0_5, .int .u8 a0_6] (0, 0) _ rfl (kp BK369) Try.underlying32 rfl (by kernel_rfl)) rfl ?_
    exact ⟨by first | rfl | (simp <;> rfl) | (simp [*] <;> rfl), bS⟩
   ·replace c16 := Bool.eq_false_iff.mpr c16
    subst c16
    have H1 : (if a0_1 = 0 then (some (a0_0, a1, a0_2, a0_3, a0_4, a0_5, a0_6, true)) else (if a0_2 = 0 then (some (a0_0, a0_1, a1, a0_3, a0_4, a0_5, a0_6, true)) else (some (a0_0, a0_1, a0_2, a0_3, a0_4, a0_5, a0_6, false)))) = some (r1, r2, r3, r4, r5, r6, r7, r8) := by rw [if_neg (show ¬ (false = true) by decide)] at H; exact H
    clear H
    have H := H1
    clear H1
    by_cases c20 : a0_1 = 0
    ·rw [if_pos c20] at H
     have c20b0 : (a0_1 == 0) = true := beq_iff_eq.mpr c20
     have c20b1 : (a0_1 != 0) = false := bne_eq_false_iff_eq.mpr c20
     clear c20
     simp only [Option.some.injEq, Prod.mk.injEq] at H
     obtain ⟨rfl, rfl, rfl, rfl, rfl, rfl, rfl, rfl⟩ := H
     have hnb21 := NB368_369.out
     have hnc21 := NB369_368.out
     have hz22 := cel7 BK368.out
     have hz23 := cel7 BK369.out
     go_wp2
     refine bodyPost_ret (results_ct rfl _ _ gb369 32 #[.int .i64 a0_0, .int .i64 a1, .int .i64 a0_2, .int .u8 a0_3, .int .u8 a0_4, .int .u8 a0_5, .int .u8 a0_6] (0, 0) _ rfl (kp BK369) Try.underlying32 rfl (by kernel_rfl)) rfl ?_
     exact ⟨by first | rfl | (simp <;> rfl) | (simp [*] <;> rfl), bS⟩
    ·rw [if_neg c20] at H
     have c20b0 : (a0_1 == 0) = false := beq_eq_false_iff_ne.mpr c20
     have c20b1 : (a0_1 != 0) = true := bne_iff_ne.mpr c20
     by_cases c24 : a0_2 = 0
     ·rw [if_pos c24] at H
      have c24b0 : (a0_2 == 0) = true := beq_iff_eq.mpr c24
      have c24b1 : (a0_2 != 0) = false := bne_eq_false_iff_eq.mpr c24
      clear c24
      simp only [Option.some.injEq, Prod.mk.injEq] at H
      obtain ⟨rfl, rfl, rfl, rfl, rfl, rfl, rfl, rfl⟩ := H
      have hnb25 := NB368_369.out
      have hnc25 := NB369_368.out
      have hz26 := cel7 BK368.out
      have hz27 := cel7 BK369.out
      go_wp2
      refine bodyPost_ret (results_ct rfl _ _ gb369 32 #[.int .i64 a0_0, .int .i64 a0_1, .int .i64 a1, .int .u8 a0_3, .int .u8 a0_4, .int .u8 a0_5, .int .u8 a0_6] (0, 0) _ rfl (kp BK369) Try.underlying32 rfl (by kernel_rfl)) rfl ?_
      exact ⟨by first | rfl | (simp <;> rfl) | (simp [*] <;> rfl), bS⟩
     ·rw [if_neg c24] at H
      have c24b0 : (a0_2 == 0) = false := beq_eq_false_iff_ne.mpr c24
      have c24b1 : (a0_2 != 0) = true := bne_iff_ne.mpr c24
      simp only [Option.some.injEq, Prod.mk.injEq] at H
      obtain ⟨rfl, rfl, rfl, rfl, rfl, rfl, rfl, rfl⟩ := H
      have hnb28 := NB368_369.out
      have hnc28 := NB369_368.out
      have hz29 := cel7 BK368.out
      have hz30 := cel7 BK369.out
      go_wp2
      refine bodyPost_ret (results_ct rfl _ _ gb369 32 #[.int .i64 a0_0, .int .i64 a0_1, .int .i64 a0_2, .int .u8 a0_3, .int .u8 a0_4, .int .u8 a0_5, .int .u8 a0_6] (0, 0) _ rfl (kp BK369) Try.underlying32 rfl (by kernel_rfl)) rfl ?_
      exact ⟨by first | rfl | (simp <;> rfl) | (simp [*] <;> rfl), bS⟩
end Go.Proofs.Ytblcmcdifgclcaa.PGridSame
