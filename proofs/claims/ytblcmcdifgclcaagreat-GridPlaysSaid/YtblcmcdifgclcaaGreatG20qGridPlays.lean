/- GridPlays: what its proof leads to. No condition. -/
import Derived.Test.YtblcmcdifgclcaaGreatG13qGridPlays
import Derived.Test.YtblcmcdifgclcaaGreatG16qGridPlays
import Derived.Test.YtblcmcdifgclcaaGreatG17qGridPlays
import Derived.Test.YtblcmcdifgclcaaGreatG18qGridPlays
import Derived.Test.YtblcmcdifgclcaaGreatG19qGridPlays
import Derived.Test.YtblcmcdifgclcaaGreatG6qGridPlays
namespace Go.Proofs.YtblcmcdifgclcaaGreat.PGridPlays
open Go.RowKit Go.Proofs.YtblcmcdifgclcaaGreatW.PrintWords Go.Proofs.YtblcmcdifgclcaaGreatW.PrintLast Go.Proofs.YtblcmcdifgclcaaGreatW.PrintMore
attribute [local go_sem] isSome_setCell max2_int min2_int max_two min_two
set_option linter.unusedVariables false
set_option linter.unusedSimpArgs false
attribute [local go_sem high] eqA50
def prolepsisref06_Erase.l0 : Nat → List (S52) → Int → Int → List (S52) → Int → Int → Int → Int → Option ((List (S52)))
 | 0, _, _, _, _, _, _, _, _ => none
 | k + 1, x0, x1, x2, x9, x10, x348000, x348001, x348002 => if x10 < (x0.length : Int) then (if 0 ≤ x10 then (if x10 ≥ x1 then (if x10 < x2 then ((prolepsisref05_Blank.f x348000 x348001 x348002).bind fun bt350 => (if x9.length < 4398046511104 then (prolepsisref06_Erase.l0 k x0 x1 x2 (x9 ++ [(⟨bt350.1, (⟨bt350.2.1, bt350.2.2.1⟩ : S49), bt350.2.2.2.1, (⟨bt350.2.2.2.2.1, bt350.2.2.2.2.2.1, bt350.2.2.2.2.2.2⟩ : S50)⟩ : S52)]) (wrap64 (x10 + 1)) x348000 x348001 x348002) else (none))) else (if x9.length < 4398046511104 then (prolepsisref06_Erase.l0 k x0 x1 x2 (x9 ++ [(⟨(rd_T52 x0 x10).f0, (⟨(rd_T52 x0 x10).f1.f0, (rd_T52 x0 x10).f1.f1⟩ : S49), (rd_T52 x0 x10).f2, (⟨(rd_T52 x0 x10).f3.f0, (rd_T52 x0 x10).f3.f1, (rd_T52 x0 x10).f3.f2⟩ : S50)⟩ : S52)]) (wrap64 (x10 + 1)) x348000 x348001 x348002) else (none))) else (if x9.length < 4398046511104 then (prolepsisref06_Erase.l0 k x0 x1 x2 (x9 ++ [(⟨(rd_T52 x0 x10).f0, (⟨(rd_T52 x0 x10).f1.f0, (rd_T52 x0 x10).f1.f1⟩ : S49), (rd_T52 x0 x10).f2, (⟨(rd_T52 x0 x10).f3.f0, (rd_T52 x0 x10).f3.f1, (rd_T52 x0 x10).f3.f2⟩ : S50)⟩ : S52)]) (wrap64 (x10 + 1)) x348000 x348001 x348002) else (none))) else (none)) else ((prolepsisref06_Mend.f k x9).bind fun t366 => (some t366))
def prolepsisref06_Erase.f (k : Nat) (l0 : List (S52)) (a1 : Int) (a2 : Int) (a3_0 : Int) (a3_1 : Int) (a3_2 : Int) : Option ((List (S52))) := prolepsisref06_Erase.l0 k l0 a1 a2 ([] : List (S52)) 0 a3_0 a3_1 a3_2
set_option maxHeartbeats 8000000 in
set_option maxRecDepth 100000 in
theorem prolepsisref06_Erase.calls (k : Nat) (A0 : Option Addr) (c0 : Nat) (l0 : List (S52)) (a1 : Int) (a2 : Int) (a3_0 : Int) (a3_1 : Int) (a3_2 : Int) (r : List (S52)) (w : World) (hr0 : Kd.C k52 w A0 l0.length l0) (hc0 : l0.length ≤ c0) (h : prolepsisref06_Erase.f k l0 a1 a2 a3_0 a3_1 a3_2 = some r) :
 Calls Tryz.prog 72 #[.slice A0 l0.length c0, .int .i64 a1, .int .i64 a2, .agg #[.int .u8 a3_0, .int .u8 a3_1, .int .u8 a3_2]] w fun e w' => ∃ v0_ : Value, e = .returned (v0_) ∧ Kd.R k52 52 w' w.heap.size (fun _ => True) v0_ r ∧ Below w.heap.size w w' := by
 have hu50 := Tryz.underlying50
 have hu52 := Tryz.underlying52
 have HR0 := aS hr0
 have HC0 := aS hc0
 clear hr0 hc0
 have HB := aS (Below.refl w.heap.size w)
 have H : (prolepsisref06_Erase.l0 k l0 a1 a2 ([] : List (S52)) 0 a3_0 a3_1 a3_2) = some r := h
 clear h
 have H' := aS H
 clear H
 go_enter Tryz.func72, Tryz.ntmps72
 go_wp2_with (first | (refine bx 7 #[.int .u8 a3_0, .int .u8 a3_1, .int .u8 a3_2] 50 ?_; intro gb347 hg w5 hbox hb; have BK347 := aS (hbox); have GW347 := aS (gw HB hg); have GE347 := aS (gw HB hg); replace HB := aS (below_step bB hb); clear hb hbox hg))
 go_loopg [9, 10] k (fun kq v9 v10 w' => ∃ (x9_1 : List (S52)) (x10_1 : Int), v10 = .int .i64 x10_1 ∧ Aside0 (prolepsisref06_Erase.l0 kq l0 a1 a2 x9_1 x10_1 a3_0 a3_1 a3_2 = some r) ∧ Aside0 (kq ≤ k) ∧ Aside0 (Kd.R k52 52 w' w.heap.size (fun _ => True) v9 x9_1) ∧ Aside0 (w'.heap[gb347]? = some (.cells #[.int .u8 a3_0, .int .u8 a3_1, .int .u8 a3_2] 50 (0, 0))) ∧ Aside0 (Below w.heap.size w w'))
 case atStart => exact ⟨(([] : List (S52))), (0), fS, H', ⟨Nat.le_refl _⟩, ⟨by first | exact Kd.R_nil _ _ _ _ _ | exact Kd.N_nil _ _ _ _ _ | exact Kd.V_nil _ _ _ _ _ | exact Kd.Q_nil _ _ _ _ _ | exact Kd.S_nil _ _ _ _ _⟩, ⟨kb BK347⟩, ⟨bS⟩⟩
 case round =>
  clear H'
  try clear p2
  obtain ⟨x9_1, x10_1, rfl, HA, HK1, HO_9, BK347, HB⟩ := hrel
  cases gk with
  | zero => exact absurd HA.out (by simp [prolepsisref06_Erase.l0])
  | succ k1 =>
   have H := HA.out
   clear HA
   simp only [prolepsisref06_Erase.l0] at H
   by_cases c6 : x10_1 < (l0.length : Int)
   ·rw [if_pos c6] at H
    have c6b0 : decide (x10_1 < (l0.length : Int)) = true := decide_eq_true c6
    clear c6
    obtain ⟨c7, H⟩ := ifS H
    have c7b0 : decide (0 ≤ x10_1) = true := decide_eq_true c7
    clear c7
    by_cases c8 : x10_1 ≥ a1
    ·rw [if_pos c8] at H
     have c8b0 : decide (a1 ≤ x10_1) = true := decide_eq_true c8
     clear c8
     by_cases c9 : x10_1 < a2
     ·rw [if_pos c9] at H
      have c9b0 : decide (x10_1 < a2) = true := decide_eq_true c9
      clear c9
      replace H := Option.bind_eq_some_iff.mp H
      obtain ⟨⟨t350, t351, t352, t353, t354, t355, t356⟩, A100, H⟩ := H
      try dsimp only at H
      have A10 := aS A100
      clear A100
      obtain ⟨c11, H⟩ := ifS H
      have LMc11 := aS c11
      clear c11
      obtain ⟨y357, hy357⟩ : ∃ y_ : List (S52), y_ = (x9_1 ++ [(⟨t350, (⟨t351, t352⟩ : S49), t353, (⟨t354, t355, t356⟩ : S50)⟩ : S52)]) := ⟨_, rfl⟩
      replace H : (prolepsisref06_Erase.l0 k1 l0 a1 a2 y357 (wrap64 (x10_1 + 1)) a3_0 a3_1 a3_2) = some r := rq hy357 H
      have Ny357 := aS hy357
      clear hy357
      have H' := aS H
      clear H
      have p348 : 0 ≤ (x10_1 : Int) := dA
      have q348 : x10_1 < (l0.length : Int) := dA
      obtain ⟨ad348, e348, hx348_0, hx348_1, hx348_2, hx348_3, hx348_4, hx348_5, hx348_6⟩ := at_T52 HR0.out x10_1 p348 q348
      cases e348
      replace hx348_0 := xc HB hx348_0
      replace hx348_1 := xc HB hx348_1
      replace hx348_2 := xc HB hx348_2
      replace hx348_3 := xc HB hx348_3
      replace hx348_4 := xc HB hx348_4
      replace hx348_5 := xc HB hx348_5
      replace hx348_6 := xc HB hx348_6
      replace p348 := eq_true p348
      replace q348 := eq_true q348
      go_wp2_with (first | (refine bx 11 #[.int .i64 0, .int .i64 0, .int .i64 0, .int .u8 0, .int .u8 0, .int .u8 0, .int .u8 0] 52 ?_; intro gb349 hg w12 hbox hb; replace HO_9 := aS (Kd.R_below (Kd.R_elderB (rr HO_9) gb349 (Nat.le_of_eq hg.symm)) hb); have BK349 := aS (hbox); have GW349 := aS (gw HB hg); have GE349 := aS (gw HB hg); replace HB := aS (below_step bS hb); have NB347_349 := aS ((by rw [hg]; exact Nat.ne_of_lt (blk_lt (kb BK347)) : gb347 ≠ gb349)); have NB349_347 := aS ((by rw [hg]; exact Nat.ne_of_gt (blk_lt (kb BK347)) : gb349 ≠ gb347)); replace BK347 := aS (blk_below (kb BK347) hb); clear hb hbox hg; have hnb13 := NB349_347.out; have hnc13 := NB347_349.out; have hz14 := cel7 BK349.out; have hz15 := cel3 BK347.out) | (refine gL 64 31 Tryz.func64 #[.agg #[.int .u8 a3_0, .int .u8 a3_1, .int .u8 a3_2]] ?_; (with_reducible refine (prolepsisref05_Blank.calls a3_0 a3_1 a3_2 t350 t351 t352 t353 t354 t355 t356 _ A10.out).mono ?_); rintro e w16 ⟨rfl, hb⟩; refine ⟨_, rfl, ?_⟩; replace HO_9 := aS (Kd.R_below (by (with_reducible repeat (first | apply rA | apply rN | apply rD)); exact (Kd.R_mono (rK (Kd.R_mono HO_9.out (fun k_ hk => (⟨hk, hk.2⟩ : _ ∧ k_ ≠ gb349)))) (fun _ h_ => h_.1))) hb); replace BK347 := aS (blk_below (g := gb347) (o := .cells #[.int .u8 a3_0, .int .u8 a3_1, .int .u8 a3_2] 50 (0, 0)) (kp BK347) hb); replace BK349 := aS (blk_below (g := gb349) (o := .cells #[.int .i64 ((rd_T52 l0 x10_1).f0), .int .i64 ((rd_T52 l0 x10_1).f1.f0), .int .i64 ((rd_T52 l0 x10_1).f1.f1), .int .u8 ((rd_T52 l0 x10_1).f2), .int .u8 ((rd_T52 l0 x10_1).f3.f0), .int .u8 ((rd_T52 l0 x10_1).f3.f1), .int .u8 ((rd_T52 l0 x10_1).f3.f2)] 52 (0, 0)) (kp BK349) hb); replace HB := aS (below_step bS hb); (try clear hb); (try clear hb2); (try clear hk); (try clear hi); have hz17 := cel7 BK349.out) | ((with_reducible refine gate_builtin (b := .append) (xs := #[.tmp 32, .tmp 34]) rfl ?_); at_builtin; refine Kd.R_append k52 (w0 := w) w.heap.size rfl (.tmp 32) (.tmp 34) 72 52 (.agg #[(.int .i64 0), (.int .i64 0), (.int .i64 0), (.int .u8 0), (.int .u8 0), (.int .u8 0), (.int .u8 0)]) 32 rfl Tryz.underlying72 info52 rfl (by decide) (by omega) u9 x9_1 (⟨t350, (⟨t351, t352⟩ : S49), t353, (⟨t354, t355, t356⟩ : S50)⟩ : S52) [.int .i64 t350, .int .i64 t351, .int .i64 t352, .int .u8 t353, .int .u8 t354, .int .u8 t355, .int .u8 t356] (fun k_ => k_ ≠ gb349) (fun _ => False) rfl (by first | (go_simp; done) | (go_simp; rfl)) ?aP (fun _ hk => hk.elim) ?aF ?aO ?aB ?aS ?aL ?_; (case aP => exact k52_mkM _ _ _ (⟨t350, (⟨t351, t352⟩ : S49), t353, (⟨t354, t355, t356⟩ : S50)⟩ : S52)); (case aB => exact bS); (case aF => exact (fun k_ hk => Kd.freshB (g := gb349) (o := .cells #[.int .i64 t350, .int .i64 t351, .int .i64 t352, .int .u8 t353, .int .u8 t354, .int .u8 t355, .int .u8 t356] 52 (0, 0)) (kp BK349) k_ hk)); (case aO => exact (by (with_reducible repeat (first | apply rA | apply rN | apply rD)); exact Kd.R_mono (rK (Kd.R_mono HO_9.out (fun k_ hk => (⟨hk, hk.2⟩ : _ ∧ k_ ≠ gb349)))) (fun _ hk => hk.1.2))); (case aS => exact (below_size bS)); (case aL => have := LMc11.out; omega); intro v358 w18 ho hb hg hat; rw [← Ny357.out] at ho; replace BK347 := aS (blk_grown (g := gb347) (o := .cells #[.int .u8 a3_0, .int .u8 a3_1, .int .u8 a3_2] 50 (0, 0)) (kp BK347) hg (Kd.R_ne HO_9.out BK347.out (by decide))); replace BK349 := aS (blk_grown (g := gb349) (o := .cells #[.int .i64 t350, .int .i64 t351, .int .i64 t352, .int .u8 t353, .int .u8 t354, .int .u8 t355, .int .u8 t356] 52 (0, 0)) (kp BK349) hg (Kd.R_away HO_9.out (fun _ hk => hk.2))); replace HB := aS (hb); have HO359 := aS (ho); clear HO_9; clear ho hb hg hat))
      go_roundg k1
      case measure => have := HK1.out; omega
      case rel => exact ⟨(y357), (wrap64 (x10_1 + 1)), fS, H', ⟨by have := HK1.out; omega⟩, ⟨by (with_reducible repeat (first | apply rA | apply rN | apply rD)); exact Kd.R_mono HO359.out (fun _ hk => trivial)⟩, ⟨kb BK347⟩, ⟨bS⟩⟩
     ·rw [if_neg c9] at H
      have c9b0 : decide (x10_1 < a2) = false := decide_eq_false c9
      clear c9
      obtain ⟨c19, H⟩ := ifS H
      have LMc19 := aS c19
      clear c19
      obtain ⟨y360, hy360⟩ : ∃ y_ : List (S52), y_ = (x9_1 ++ [(⟨(rd_T52 l0 x10_1).f0, (⟨(rd_T52 l0 x10_1).f1.f0, (rd_T52 l0 x10_1).f1.f1⟩ : S49), (rd_T52 l0 x10_1).f2, (⟨(rd_T52 l0 x10_1).f3.f0, (rd_T52 l0 x10_1).f3.f1, (rd_T52 l0 x10_1).f3.f2⟩ : S50)⟩ : S52)]) := ⟨_, rfl⟩
      replace H : (prolepsisref06_Erase.l0 k1 l0 a1 a2 y360 (wrap64 (x10_1 + 1)) a3_0 a3_1 a3_2) = some r := rq hy360 H
      have Ny360 := aS hy360
      clear hy360
      have H' := aS H
      clear H
      have p348 : 0 ≤ (x10_1 : Int) := dA
      have q348 : x10_1 < (l0.length : Int) := dA
      obtain ⟨ad348, e348, hx348_0, hx348_1, hx348_2, hx348_3, hx348_4, hx348_5, hx348_6⟩ := at_T52 HR0.out x10_1 p348 q348
      cases e348
      replace hx348_0 := xc HB hx348_0
      replace hx348_1 := xc HB hx348_1
      replace hx348_2 := xc HB hx348_2
      replace hx348_3 := xc HB hx348_3
      replace hx348_4 := xc HB hx348_4
      replace hx348_5 := xc HB hx348_5
      replace hx348_6 := xc HB hx348_6
      replace p348 := eq_true p348
      replace q348 := eq_true q348
      go_wp2_with (first | (refine bx 11 #[.int .i64 0, .int .i64 0, .int .i64 0, .int .u8 0, .int .u8 0, .int .u8 0, .int .u8 0] 52 ?_; intro gb349 hg w20 hbox hb; replace HO_9 := aS (Kd.R_below (Kd.R_elderB (rr HO_9) gb349 (Nat.le_of_eq hg.symm)) hb); have BK349 := aS (hbox); have GW349 := aS (gw HB hg); have GE349 := aS (gw HB hg); replace HB := aS (below_step bS hb); have NB347_349 := aS ((by rw [hg]; exact Nat.ne_of_lt (blk_lt (kb BK347)) : gb347 ≠ gb349)); have NB349_347 := aS ((by rw [hg]; exact Nat.ne_of_gt (blk_lt (kb BK347)) : gb349 ≠ gb347)); replace BK347 := aS (blk_below (kb BK347) hb); clear hb hbox hg; have hnb21 := NB349_347.out; have hnc21 := NB347_349.out; have hz22 := cel7 BK349.out) | ((with_reducible refine gate_builtin (b := .append) (xs := #[.tmp 32, .tmp 34]) rfl ?_); at_builtin; refine Kd.R_append k52 (w0 := w) w.heap.size rfl (.tmp 32) (.tmp 34) 72 52 (.agg #[(.int .i64 0), (.int .i64 0), (.int .i64 0), (.int .u8 0), (.int .u8 0), (.int .u8 0), (.int .u8 0)]) 32 rfl Tryz.underlying72 info52 rfl (by decide) (by omega) u9 x9_1 (⟨(rd_T52 l0 x10_1).f0, (⟨(rd_T52 l0 x10_1).f1.f0, (rd_T52 l0 x10_1).f1.f1⟩ : S49), (rd_T52 l0 x10_1).f2, (⟨(rd_T52 l0 x10_1).f3.f0, (rd_T52 l0 x10_1).f3.f1, (rd_T52 l0 x10_1).f3.f2⟩ : S50)⟩ : S52) [.int .i64 ((rd_T52 l0 x10_1).f0), .int .i64 ((rd_T52 l0 x10_1).f1.f0), .int .i64 ((rd_T52 l0 x10_1).f1.f1), .int .u8 ((rd_T52 l0 x10_1).f2), .int .u8 ((rd_T52 l0 x10_1).f3.f0), .int .u8 ((rd_T52 l0 x10_1).f3.f1), .int .u8 ((rd_T52 l0 x10_1).f3.f2)] (fun k_ => k_ ≠ gb349) (fun _ => False) rfl (by first | (go_simp; done) | (go_simp; rfl)) ?aP (fun _ hk => hk.elim) ?aF ?aO ?aB ?aS ?aL ?_; (case aP => exact k52_mkM _ _ _ (⟨(rd_T52 l0 x10_1).f0, (⟨(rd_T52 l0 x10_1).f1.f0, (rd_T52 l0 x10_1).f1.f1⟩ : S49), (rd_T52 l0 x10_1).f2, (⟨(rd_T52 l0 x10_1).f3.f0, (rd_T52 l0 x10_1).f3.f1, (rd_T52 l0 x10_1).f3.f2⟩ : S50)⟩ : S52)); (case aB => exact bS); (case aF => exact (fun k_ hk => Kd.freshB (g := gb349) (o := .cells #[.int .i64 ((rd_T52 l0 x10_1).f0), .int .i64 ((rd_T52 l0 x10_1).f1.f0), .int .i64 ((rd_T52 l0 x10_1).f1.f1), .int .u8 ((rd_T52 l0 x10_1).f2), .int .u8 ((rd_T52 l0 x10_1).f3.f0), .int .u8 ((rd_T52 l0 x10_1).f3.f1), .int .u8 ((rd_T52 l0 x10_1).f3.f2)] 52 (0, 0)) (kp BK349) k_ hk)); (case aO => exact (by (with_reducible repeat (first | apply rA | apply rN | apply rD)); exact Kd.R_mono (rK (Kd.R_mono HO_9.out (fun k_ hk => (⟨hk, hk.2⟩ : _ ∧ k_ ≠ gb349)))) (fun _ hk => hk.1.2))); (case aS => exact (below_size bS)); (case aL => have := LMc19.out; omega); intro v361 w23 ho hb hg hat; rw [← Ny360.out] at ho; replace BK347 := aS (blk_grown (g := gb347) (o := .cells #[.int .u8 a3_0, .int .u8 a3_1, .int .u8 a3_2] 50 (0, 0)) (kp BK347) hg (Kd.R_ne HO_9.out BK347.out (by decide))); replace BK349 := aS (blk_grown (g := gb349) (o := .cells #[.int .i64 ((rd_T52 l0 x10_1).f0), .int .i64 ((rd_T52 l0 x10_1).f1.f0), .int .i64 ((rd_T52 l0 x10_1).f1.f1), .int .u8 ((rd_T52 l0 x10_1).f2), .int .u8 ((rd_T52 l0 x10_1).f3.f0), .int .u8 ((rd_T52 l0 x10_1).f3.f1), .int .u8 ((rd_T52 l0 x10_1).f3.f2)] 52 (0, 0)) (kp BK349) hg (Kd.R_away HO_9.out (fun _ hk => hk.2))); replace HB := aS (hb); have HO362 := aS (ho); clear HO_9; clear ho hb hg hat))
      go_roundg k1
      case measure => have := HK1.out; omega
      case rel => exact ⟨(y360), (wrap64 (x10_1 + 1)), fS, H', ⟨by have := HK1.out; omega⟩, ⟨by (with_reducible repeat (first | apply rA | apply rN | apply rD)); exact Kd.R_mono HO362.out (fun _ hk => trivial)⟩, ⟨kb BK347⟩, ⟨bS⟩⟩
    ·rw [if_neg c8] at H
     have c8b0 : decide (a1 ≤ x10_1) = false := decide_eq_false c8
     clear c8
     obtain ⟨c24, H⟩ := ifS H
     have LMc24 := aS c24
     clear c24
     obtain ⟨y363, hy363⟩ : ∃ y_ : List (S52), y_ = (x9_1 ++ [(⟨(rd_T52 l0 x10_1).f0, (⟨(rd_T52 l0 x10_1).f1.f0, (rd_T52 l0 x10_1).f1.f1⟩ : S49), (rd_T52 l0 x10_1).f2, (⟨(rd_T52 l0 x10_1).f3.f0, (rd_T52 l0 x10_1).f3.f1, (rd_T52 l0 x10_1).f3.f2⟩ : S50)⟩ : S52)]) := ⟨_, rfl⟩
     replace H : (prolepsisref06_Erase.l0 k1 l0 a1 a2 y363 (wrap64 (x10_1 + 1)) a3_0 a3_1 a3_2) = some r := rq hy363 H
     have Ny363 := aS hy363
     clear hy363
     have H' := aS H
     clear H
     have p348 : 0 ≤ (x10_1 : Int) := dA
     have q348 : x10_1 < (l0.length : Int) := dA
     obtain ⟨ad348, e348, hx348_0, hx348_1, hx348_2, hx348_3, hx348_4, hx348_5, hx348_6⟩ := at_T52 HR0.out x10_1 p348 q348
     cases e348
     replace hx348_0 := xc HB hx348_0
     replace hx348_1 := xc HB hx348_1
     replace hx348_2 := xc HB hx348_2
     replace hx348_3 := xc HB hx348_3
     replace hx348_4 := xc HB hx348_4
     replace hx348_5 := xc HB hx348_5
     replace hx348_6 := xc HB hx348_6
     replace p348 := eq_true p348
     replace q348 := eq_true q348
     go_wp2_with (first | (refine bx 11 #[.int .i64 0, .int .i64 0, .int .i64 0, .int .u8 0, .int .u8 0, .int .u8 0, .int .u8 0] 52 ?_; intro gb349 hg w25 hbox hb; replace HO_9 := aS (Kd.R_below (Kd.R_elderB (rr HO_9) gb349 (Nat.le_of_eq hg.symm)) hb); have BK349 := aS (hbox); have GW349 := aS (gw HB hg); have GE349 := aS (gw HB hg); replace HB := aS (below_step bS hb); have NB347_349 := aS ((by rw [hg]; exact Nat.ne_of_lt (blk_lt (kb BK347)) : gb347 ≠ gb349)); have NB349_347 := aS ((by rw [hg]; exact Nat.ne_of_gt (blk_lt (kb BK347)) : gb349 ≠ gb347)); replace BK347 := aS (blk_below (kb BK347) hb); clear hb hbox hg; have hnb26 := NB349_347.out; have hnc26 := NB347_349.out; have hz27 := cel7 BK349.out) | ((with_reducible refine gate_builtin (b := .append) (xs := #[.tmp 32, .tmp 34]) rfl ?_); at_builtin; refine Kd.R_append k52 (w0 := w) w.heap.size rfl (.tmp 32) (.tmp 34) 72 52 (.agg #[(.int .i64 0), (.int .i64 0), (.int .i64 0), (.int .u8 0), (.int .u8 0), (.int .u8 0), (.int .u8 0)]) 32 rfl Tryz.underlying72 info52 rfl (by decide) (by omega) u9 x9_1 (⟨(rd_T52 l0 x10_1).f0, (⟨(rd_T52 l0 x10_1).f1.f0, (rd_T52 l0 x10_1).f1.f1⟩ : S49), (rd_T52 l0 x10_1).f2, (⟨(rd_T52 l0 x10_1).f3.f0, (rd_T52 l0 x10_1).f3.f1, (rd_T52 l0 x10_1).f3.f2⟩ : S50)⟩ : S52) [.int .i64 ((rd_T52 l0 x10_1).f0), .int .i64 ((rd_T52 l0 x10_1).f1.f0), .int .i64 ((rd_T52 l0 x10_1).f1.f1), .int .u8 ((rd_T52 l0 x10_1).f2), .int .u8 ((rd_T52 l0 x10_1).f3.f0), .int .u8 ((rd_T52 l0 x10_1).f3.f1), .int .u8 ((rd_T52 l0 x10_1).f3.f2)] (fun k_ => k_ ≠ gb349) (fun _ => False) rfl (by first | (go_simp; done) | (go_simp; rfl)) ?aP (fun _ hk => hk.elim) ?aF ?aO ?aB ?aS ?aL ?_; (case aP => exact k52_mkM _ _ _ (⟨(rd_T52 l0 x10_1).f0, (⟨(rd_T52 l0 x10_1).f1.f0, (rd_T52 l0 x10_1).f1.f1⟩ : S49), (rd_T52 l0 x10_1).f2, (⟨(rd_T52 l0 x10_1).f3.f0, (rd_T52 l0 x10_1).f3.f1, (rd_T52 l0 x10_1).f3.f2⟩ : S50)⟩ : S52)); (case aB => exact bS); (case aF => exact (fun k_ hk => Kd.freshB (g := gb349) (o := .cells #[.int .i64 ((rd_T52 l0 x10_1).f0), .int .i64 ((rd_T52 l0 x10_1).f1.f0), .int .i64 ((rd_T52 l0 x10_1).f1.f1), .int .u8 ((rd_T52 l0 x10_1).f2), .int .u8 ((rd_T52 l0 x10_1).f3.f0), .int .u8 ((rd_T52 l0 x10_1).f3.f1), .int .u8 ((rd_T52 l0 x10_1).f3.f2)] 52 (0, 0)) (kp BK349) k_ hk)); (case aO => exact (by (with_reducible repeat (first | apply rA | apply rN | apply rD)); exact Kd.R_mono (rK (Kd.R_mono HO_9.out (fun k_ hk => (⟨hk, hk.2⟩ : _ ∧ k_ ≠ gb349)))) (fun _ hk => hk.1.2))); (case aS => exact (below_size bS)); (case aL => have := LMc24.out; omega); intro v364 w28 ho hb hg hat; rw [← Ny363.out] at ho; replace BK347 := aS (blk_grown (g := gb347) (o := .cells #[.int .u8 a3_0, .int .u8 a3_1, .int .u8 a3_2] 50 (0, 0)) (kp BK347) hg (Kd.R_ne HO_9.out BK347.out (by decide))); replace BK349 := aS (blk_grown (g := gb349) (o := .cells #[.int .i64 ((rd_T52 l0 x10_1).f0), .int .i64 ((rd_T52 l0 x10_1).f1.f0), .int .i64 ((rd_T52 l0 x10_1).f1.f1), .int .u8 ((rd_T52 l0 x10_1).f2), .int .u8 ((rd_T52 l0 x10_1).f3.f0), .int .u8 ((rd_T52 l0 x10_1).f3.f1), .int .u8 ((rd_T52 l0 x10_1).f3.f2)] 52 (0, 0)) (kp BK349) hg (Kd.R_away HO_9.out (fun _ hk => hk.2))); replace HB := aS (hb); have HO365 := aS (ho); clear HO_9; clear ho hb hg hat))
     go_roundg k1
     case measure => have := HK1.out; omega
     case rel => exact ⟨(y363), (wrap64 (x10_1 + 1)), fS, H', ⟨by have := HK1.out; omega⟩, ⟨by (with_reducible repeat (first | apply rA | apply rN | apply rD)); exact Kd.R_mono HO365.out (fun _ hk => trivial)⟩, ⟨kb BK347⟩, ⟨bS⟩⟩
   ·rw [if_neg c6] at H
    have c6b0 : decide (x10_1 < (l0.length : Int)) = false := decide_eq_false c6
    clear c6
    replace H := Option.bind_eq_some_iff.mp H
    obtain ⟨t366, A290, H⟩ := H
    try dsimp only at H
    have A29 := aS A290
    clear A290
    obtain rfl := Option.some.inj H
    obtain ⟨Ao30, co30, eo30⟩ := Kd.R_slice HO_9.out
    subst eo30
    go_wp2_with (first | (refine gL 94 37 Tryz.func94 #[.slice Ao30 x9_1.length co30] ?_; (with_reducible refine (prolepsisref06_Mend.calls k1 _ _ x9_1 t366 _ ?side1 ?side2 A29.out).mono ?_); (case side1 => exact rC (Kd.R_reads' HO_9.out)); (case side2 => exact (Kd.R_reads' HO_9.out).2.1); rintro e w31 ⟨v367, rfl, ho0, hb⟩; refine ⟨_, rfl, ?_⟩; have HO368 := aS (Kd.R_lower (Kd.R_new' ho0 (Kd.R_lt (rr HO_9))) (below_size bS)); replace HO_9 := aS (Kd.R_elder' (rr HO_9) (Kd.R_base ho0) hb); replace BK347 := aS (blk_below (kb BK347) hb); replace HB := aS (below_step bS hb); (try clear hb); (try clear hb2); (try clear hk); (try clear hi); (try clear ho0)))
    go_ret
    exact ⟨_, by first | rfl | (simp <;> rfl) | (simp [*] <;> rfl), by (with_reducible repeat (first | apply rA | apply rN | apply rD)); exact Kd.R_mono HO368.out (fun _ hk => trivial), bS⟩
def prolepsislaw06_Cut.f (l0 : List (S40)) : Option ((List (S40))) := (some (([] : List (S40)) : List (S40))).bind fun y369 => (if 0 ≤ (mn (l0.length : Int) 30) then (if (mn (l0.length : Int) 30) ≤ (l0.length : Int) then ((some (l0.take ((mn (l0.length : Int) 30) : Int).toNat : List (S40))).bind fun y372 => (if y369.length + y372.length < 8796093022208 then (some (y369 ++ y372)) else (none))) else (none)) else (none))
set_option maxHeartbeats 8000000 in
set_option maxRecDepth 100000 in
theorem prolepsislaw06_Cut.calls (A0 : Option Addr) (c0 : Nat) (l0 : List (S40)) (r : List (S40)) (w : World) (hr0 : Kd.C k40 w A0 l0.length l0) (hc0 : l0.length ≤ c0) (h : prolepsislaw06_Cut.f l0 = some r) :
 Calls Tryz.prog 35 #[.slice A0 l0.length c0] w fun e w' => ∃ v0_ : Value, e = .returned (v0_) ∧ Kd.R k40 40 w' w.heap.size (fun _ => True) v0_ r ∧ Below w.heap.size w w' := by
 have HR0 := aS hr0
 have HC0 := aS hc0
 clear hr0 hc0
 have HB := aS (Below.refl w.heap.size w)
 have H : ((some (([] : List (S40)) : List (S40))).bind fun y369 => (if 0 ≤ (mn (l0.length : Int) 30) then (if (mn (l0.length : Int) 30) ≤ (l0.length : Int) then ((some (l0.take ((mn (l0.length : Int) 30) : Int).toNat : List (S40))).bind fun y372 => (if y369.length + y372.length < 8796093022208 then (some (y369 ++ y372)) else (none))) else (none)) else (none))) = some r := h
 clear h
 obtain ⟨y369, hy369⟩ : ∃ y_ : List (S40), y_ = (([] : List (S40))) := ⟨_, rfl⟩
 replace H : (if 0 ≤ (mn (l0.length : Int) 30) then (if (mn (l0.length : Int) 30) ≤ (l0.length : Int) then ((some (l0.take ((mn (l0.length : Int) 30) : Int).toNat : List (S40))).bind fun y372 => (if y369.length + y372.length < 8796093022208 then (some (y369 ++ y372)) else (none))) else (none)) else (none)) = some r := rq hy369 H
 have Ny369 := aS hy369
 clear hy369
 obtain ⟨ji2, hji2⟩ : ∃ j_ : Int, (mn (l0.length : Int) 30) = j_ := ⟨_, rfl⟩
 replace H : (if 0 ≤ (ji2) then (if (ji2) ≤ (l0.length : Int) then ((some (l0.take ((ji2) : Int).toNat : List (S40))).bind fun y372 => (if y369.length + y372.length < 8796093022208 then (some (y369 ++ y372)) else (none))) else (none)) else (none)) = some r := by first | (rw [hji2] at H; exact H) | (simp only [hji2] at H ⊢; exact H)
 (try (have hji2h : ji2 ≤ 30 := by (rw [← hji2]; unfold mn; (repeat' split) <;> omega)))
 (try (have hji2g : ji2 ≤ 64 := by omega))
 (try (have hji2l : 0 ≤ ji2 := by (rw [← hji2]; unfold mn; (repeat' split) <;> omega)))
 (try (have hji2m : 0 ≤ ji2 := by omega))
 have hji2_ : (if 30 < (l0.length : Int) then 30 else (l0.length : Int)) = ji2 := hji2
 obtain ⟨c3, H⟩ := ifS H
 have c3b0 := eq_true c3
 have c3b1 : decide (0 ≤ (ji2)) = true := decide_eq_true c3
 clear c3
 obtain ⟨c4, H⟩ := ifS H
 have c4b0 := eq_true c4
 have c4b1 : decide ((ji2) ≤ (l0.length : Int)) = true := decide_eq_true c4
 clear c4
 obtain ⟨y372, hy372⟩ : ∃ y_ : List (S40), y_ = (l0.take ((ji2) : Int).toNat) := ⟨_, rfl⟩
 replace H : (if y369.length + y372.length < 8796093022208 then (some (y369 ++ y372)) else (none)) = some r := rq hy372 H
 have Ny372 := aS hy372
 clear hy372
 obtain ⟨c5, H⟩ := ifS H
 have LMc5 := aS c5
 clear c5
 obtain ⟨y376, hy376⟩ : ∃ y_ : List (S40), y_ = (y369 ++ y372) := ⟨_, rfl⟩
 replace H : (some y376) = some r := rq hy376 H
 have Ny376 := aS hy376
 clear hy376
 obtain rfl := Option.some.inj H
 go_enter Tryz.func35, Tryz.ntmps35
 go_wp2_with (first | ((with_reducible refine gate_dst (N := 3) rfl ?_); refine Kd.R_lit k40 _ 40 ?hg (N := 3) ?hd (xs := ([] : List (S40))) (inner := []) (ok := fun _ => True) (okp := fun _ => True) ?hr ?hp (fun _ hk => hk) trivial (Below.refl _ _) (Nat.le_refl _) (by simp) ?_; (case hd => rfl); (case hg => rfl); (case hr => first | (go_simp; done) | (go_simp; rfl)); (case hp => exact (Reps.none _ _)); intro v370 w6 ho7 hb hg_ hnew_; clear hg_ hnew_; (first | rw [← Ny369.out] at ho7 | (simp only [Int.reduceToNat] at ho7; rw [← Ny369.out] at ho7)); have HO371 := aS (Kd.R_lower ho7 (below_size bB)); replace HB := aS (below_step bB hb); clear hb ho7; have q8 : ((ji2) : Int) ≤ ((l0.length : Int) : Int) := dA; obtain ⟨i08, hi08, _, hsz8, _⟩ := info_parts info40; have hroom8 : l0.length ≤ c0 := HC0.out; have hC8 : Kd.C k40 _ A0 l0.length l0 := HR0.out; have hcut8 := cut_to (P := Tryz.prog) 41 40 .i64 Tryz.underlying41 hi08 A0 l0.length c0 (ji2) (dA) q8 hroom8; have hr8 := Kd.C_take (m := ((ji2) : Int).toNat) hC8 (by omega); have hy8 : y372.length = ((ji2) : Int).toNat := (by rw [Ny372.out, List.length_take]; omega); rw [← Ny372.out] at hr8; rw [← hy8] at hcut8; have HR375 := aS hr8; have HC375 := aS (show y372.length ≤ c0 from by omega); clear hr8 hC8 hroom8 hi08 hsz8; have KY8 := aS hy8; clear hy8; replace q8 := eq_true q8) | ((with_reducible refine gate_builtin (b := .append) (xs := #[.tmp 3, .tmp 8]) rfl ?_); at_builtin; refine Kd.R_append_rows k40 (w0 := w) w.heap.size rfl (.tmp 3) (.tmp 8) 41 40 (.agg #[(.int .i32 0), (.int .i32 0), (.int .i32 0), (.int .u8 0), (.int .u8 0), (.int .u8 0), (.int .u8 0)]) 16 rfl Tryz.underlying41 info40 rfl (by decide) (by omega) v370 y369 y372 _ _ _ (fun _ => True) (fun _ => False) rfl rfl ?aO ?aR (fun _ _ h => h) (fun _ h => h.elim) ?aF ?aB ?aS ?aL ?_; (case aR => repeat (first | exact (Kd.C_below HR375.out HB.out) | (with_reducible refine Kd.C_alloc ?_ _) | (with_reducible refine Kd.C_drewN ?_ _) | (with_reducible refine Kd.C_drew ?_))); (case aB => exact bB); (case aF => exact (fun _ _ => trivial)); (case aO => exact (rr HO371)); (case aS => exact (below_size bB)); (case aL => have := LMc5.out; omega); intro v377 w9 ho hb hg hat; rw [← Ny376.out] at ho; replace HB := aS (hb); have HO378 := aS (ho); clear HO371; clear ho hb hg hat))
 go_ret
 exact ⟨_, by first | rfl | (simp <;> rfl) | (simp only [← hji2]; first | rfl | (simp <;> rfl)) | (simp [*] <;> rfl), rr HO378, bB⟩
def prolepsisref07_Cols.f (l0_0 : List (List (S52))) (a0_1 : Int) (a0_2 : Int) : Option (Int) := if (l0_0.length : Int) = 0 then (some 0) else (if 0 < (l0_0.length : Int) then (some ((rd_L9 l0_0 0).length : Int)) else (none))
set_option maxHeartbeats 8000000 in
set_option maxRecDepth 100000 in
theorem prolepsisref07_Cols.calls (A0_0 : Option Addr) (c0_0 : Nat) (l0_0 : List (List (S52))) (a0_1 : Int) (a0_2 : Int) (r : Int) (w : World) (hr0_0 : Kd.C (Kd.slice 52 k52) w A0_0 l0_0.length l0_0) (hc0_0 : l0_0.length ≤ c0_0) (h : prolepsisref07_Cols.f l0_0 a0_1 a0_2 = some r) :
 Calls Tryz.prog 19 #[.agg #[.slice A0_0 l0_0.length c0_0, .int .i64 a0_1, .int .i64 a0_2]] w fun e w' => e = .returned (.int .i64 r) ∧ Below w.heap.size w w' := by
 have hu32 := Tryz.underlying32
 have HR0_0 := aS hr0_0
 have HC0_0 := aS hc0_0
 clear hr0_0 hc0_0
 have HB := aS (Below.refl w.heap.size w)
 have H : (if (l0_0.length : Int) = 0 then (some 0) else (if 0 < (l0_0.length : Int) then (some ((rd_L9 l0_0 0).length : Int)) else (none))) = some r := h
 clear h
 by_cases c2 : (l0_0.length : Int) = 0
 ·rw [if_pos c2] at H
  have c2b0 : ((l0_0.length : Int) == 0) = true := beq_iff_eq.mpr c2
  have c2b1 : ((l0_0.length : Int) != 0) = false := bne_eq_false_iff_eq.mpr c2
  clear c2
  obtain rfl := Option.some.inj H
  go_enter Tryz.func19, Tryz.ntmps19
  go_wp2_with (first | (refine bx 1 #[.slice A0_0 l0_0.length c0_0, .int .i64 a0_1, .int .i64 a0_2] 32 ?_; intro gb379 hg w3 hbox hb; have BK379 := aS (hbox); have GW379 := aS (gw HB hg); have GE379 := aS (gw HB hg); replace HB := aS (below_step bB hb); clear hb hbox hg; have hz4 := cel3 BK379.out))
  go_ret
  exact ⟨by first | rfl | (simp <;> rfl) | (simp [*] <;> rfl), bS⟩
 ·rw [if_neg c2] at H
  have c2b0 : ((l0_0.length : Int) == 0) = false := beq_eq_false_iff_ne.mpr c2
  have c2b1 : ((l0_0.length : Int) != 0) = true := bne_iff_ne.mpr c2
  have c2b2 : ¬ (l0_0 = []) := fun h_ => c2 (by rw [h_]; rfl)
  obtain ⟨c5, H⟩ := ifS H
  have c5b0 : decide (0 < (l0_0.length : Int)) = true := decide_eq_true c5
  have c5b1 : decide (0 < l0_0.length) = true := decide_eq_true (by omega)
  clear c5
  obtain rfl := Option.some.inj H
  go_enter Tryz.func19, Tryz.ntmps19
  go_wp2_with (first | (refine bx 1 #[.slice A0_0 l0_0.length c0_0, .int .i64 a0_1, .int .i64 a0_2] 32 ?_; intro gb379 hg w6 hbox hb; have BK379 := aS (hbox); have GW379 := aS (gw HB hg); have GE379 := aS (gw HB hg); replace HB := aS (below_step bB hb); clear hb hbox hg; have hz7 := cel3 BK379.out; have p380 : 0 ≤ (0 : Int) := (by omega); have q380 : 0 < (l0_0.length : Int) := dA; obtain ⟨ad380, A380_0, c380_0, e380, hx380_0, hl380_0, hi380_0⟩ := at_L9 HR0_0.out 0 p380 q380; cases e380; have qi380 : (0 < l0_0.length) = True := eq_true (by omega); (try rw [show ((0 : Int)).toNat = 0 from rfl] at hx380_0); (try rw [Addr.add_zero'] at hx380_0); replace hx380_0 := xc HB hx380_0; have HR380_0 := aS hi380_0; have HC380_0 := aS hl380_0; clear hi380_0 hl380_0; replace p380 := eq_true p380; replace q380 := eq_true q380))
  go_ret
  exact ⟨by first | rfl | (simp <;> rfl) | (simp [*] <;> rfl), bS⟩
mutual
def prolepsisref06_Right.l0 : Nat → List (S52) → Int → Option (Bool)
 | 0, _, _ => none
 | k + 1, x0, x3 => if x3 < (x0.length : Int) then (if 0 ≤ x3 then ((prolepsisref05_Right.f k ((rd_T52 x0 x3).f0) ((rd_T52 x0 x3).f1.f0) ((rd_T52 x0 x3).f1.f1) ((rd_T52 x0 x3).f2) ((rd_T52 x0 x3).f3.f0) ((rd_T52 x0 x3).f3.f1) ((rd_T52 x0 x3).f3.f2)).bind fun t382 => (if t382 = true then ((prolepsisref06_alone.f x0 x3).bind fun t383 => (prolepsisref06_Right.j1 k x0 x3 t383)) else (prolepsisref06_Right.j1 k x0 x3 true))) else (none)) else (some true)
def prolepsisref06_Right.j1 : Nat → List (S52) → Int → Bool → Option (Bool)
 | 0, _, _, _ => none
 | k + 1, x0, x3, x20 => if x20 = true then (some false) else (if 0 ≤ x3 then (if x3 < (x0.length : Int) then (if ((rd_T52 x0 x3).f2) = 0 then (if 0 ≤ (wrap64 (x3 - 1)) then (if (wrap64 (x3 - 1)) < (x0.length : Int) then (if (!(((rd_T52 x0 x3).f3.f0) == ((rd_T52 x0 (wrap64 (x3 - 1))).f3.f0)) || (!(((rd_T52 x0 x3).f3.f1) == ((rd_T52 x0 (wrap64 (x3 - 1))).f3.f1)) || (!(((rd_T52 x0 x3).f3.f2) == ((rd_T52 x0 (wrap64 (x3 - 1))).f3.f2))))) = true then (some false) else (prolepsisref06_Right.l0 k x0 (wrap64 (x3 + 1)))) else (none)) else (none)) else (prolepsisref06_Right.l0 k x0 (wrap64 (x3 + 1)))) else (none)) else (none))
end
def prolepsisref06_Right.f (k : Nat) (l0 : List (S52)) : Option (Bool) := prolepsisref06_Right.l0 k l0 0
set_option maxHeartbeats 8000000 in
set_option maxRecDepth 100000 in
theorem prolepsisref06_Right.calls (k : Nat) (A0 : Option Addr) (c0 : Nat) (l0 : List (S52)) (r : Bool) (w : World) (hr0 : Kd.C k52 w A0 l0.length l0) (hc0 : l0.length ≤ c0) (h : prolepsisref06_Right.f k l0 = some r) :
 Calls Tryz.prog 50 #[.slice A0 l0.length c0] w fun e w' => e = .returned (.bool r) ∧ Below w.heap.size w w' := by
 have hu52 := Tryz.underlying52
 have hu50 := Tryz.underlying50
 have HR0 := aS hr0
 have HC0 := aS hc0
 clear hr0 hc0
 have HB := aS (Below.refl w.heap.size w)
 have H : (prolepsisref06_Right.l0 k l0 0) = some r := h
 clear h
 have H' := aS H
 clear H
 go_enter Tryz.func50, Tryz.ntmps50
 go_wp2
 repeat (go_quiet (fail); try go_wp2)
 go_loopg [3] k (fun kq v3 w' => ∃ (x3_1 : Int), v3 = .int .i64 x3_1 ∧ Aside0 (prolepsisref06_Right.l0 kq l0 x3_1 = some r) ∧ Aside0 (kq ≤ k) ∧ Aside0 (Below w.heap.size w w'))
 case atStart => exact ⟨(0), fS, H', ⟨Nat.le_refl _⟩, ⟨bB⟩⟩
 case round =>
  clear H'
  obtain ⟨x3_1, rfl, HA, HK1, HB⟩ := hrel
  cases gk with
  | zero => exact absurd HA.out (by simp [prolepsisref06_Right.l0])
  | succ k1 =>
   have H := HA.out
   clear HA
   simp only [prolepsisref06_Right.l0] at H
   by_cases c2 : x3_1 < (l0.length : Int)
   ·rw [if_pos c2] at H
    have c2b0 : decide (x3_1 < (l0.length : Int)) = true := decide_eq_true c2
    clear c2
    have HC3 := aS H
    clear H
    go_upto_region 4 with (fail)
    repeat (go_quiet (fail); go_upto_region 4 with (fail))
    go_cut [20] (fun v20 wc => ∃ (kq : Nat) (x20_2 : Bool), v20 = .bool x20_2 ∧ Aside0 (prolepsisref06_Right.j1 kq l0 x3_1 x20_2 = some r) ∧ Aside0 (kq ≤ k1) ∧ Aside0 (Below w.heap.size w wc))
    case first =>
     have H := HC3.out
     clear HC3
     obtain ⟨c4, H⟩ := ifS H
     have c4b0 : decide (0 ≤ x3_1) = true := decide_eq_true c4
     clear c4
     (first | rw [c4b0] | (simp only [i64_w, i32_w]; rw [c4b0]) | skip)
     replace H := Option.bind_eq_some_iff.mp H
     obtain ⟨t382, A50, H⟩ := H
     try dsimp only at H
     have A5 := aS A50
     clear A50
     by_cases c6 : t382 = true
     ·subst c6
      have H1 : ((prolepsisref06_alone.f l0 x3_1).bind fun t383 => (prolepsisref06_Right.j1 k1 l0 x3_1 t383)) = some r := by rw [if_pos rfl] at H; exact H
      clear H
      have H := H1
      clear H1
      replace H := Option.bind_eq_some_iff.mp H
      obtain ⟨t383, A70, H⟩ := H
      try dsimp only at H
      have A7 := aS A70
      clear A70
      have H' := aS H
      clear H
      have p381 : 0 ≤ (x3_1 : Int) := dA
      have q381 : x3_1 < (l0.length : Int) := dA
      obtain ⟨ad381, e381, hx381_0, hx381_1, hx381_2, hx381_3, hx381_4, hx381_5, hx381_6⟩ := at_T52 HR0.out x3_1 p381 q381
      cases e381
      replace hx381_0 := xc HB hx381_0
      replace hx381_1 := xc HB hx381_1
      replace hx381_2 := xc HB hx381_2
      replace hx381_3 := xc HB hx381_3
      replace hx381_4 := xc HB hx381_4
      replace hx381_5 := xc HB hx381_5
      replace hx381_6 := xc HB hx381_6
      replace p381 := eq_true p381
      replace q381 := eq_true q381
      go_wp2_with (first | (go_at_call 84; (with_reducible refine (prolepsisref05_Right.calls k1 ((rd_T52 l0 x3_1).f0) ((rd_T52 l0 x3_1).f1.f0) ((rd_T52 l0 x3_1).f1.f1) ((rd_T52 l0 x3_1).f2) ((rd_T52 l0 x3_1).f3.f0) ((rd_T52 l0 x3_1).f3.f1) ((rd_T52 l0 x3_1).f3.f2) true _ A5.out).mono ?_); rintro e w8 ⟨rfl, hb⟩; replace HB := aS (below_step bB hb); (try clear hb); (try clear hb2); (try clear hk); (try clear hi)) | (go_at_call 85; (with_reducible refine (prolepsisref06_alone.calls _ _ l0 x3_1 t383 _ ?side1 ?side2 A7.out).mono ?_); (case side1 => repeat (first | exact (Kd.C_below HR0.out HB.out) | (with_reducible refine Kd.C_alloc ?_ _) | (with_reducible refine Kd.C_drewN ?_ _) | (with_reducible refine Kd.C_drew ?_))); (case side2 => exact HC0.out); rintro e w' ⟨rfl, ⟨nd, rfl⟩⟩; (try first | exact ⟨rfl, _, World.drewN_drewN _ _ _⟩ | exact ⟨rfl, _, Eq.trans (World.drewN_drewN _ _ _) (congrArg (World.drewN _) (Nat.add_assoc _ _ _))⟩)))
      repeat (go_quiet (first | (go_at_call 84; (with_reducible refine (prolepsisref05_Right.calls k1 ((rd_T52 l0 x3_1).f0) ((rd_T52 l0 x3_1).f1.f0) ((rd_T52 l0 x3_1).f1.f1) ((rd_T52 l0 x3_1).f2) ((rd_T52 l0 x3_1).f3.f0) ((rd_T52 l0 x3_1).f3.f1) ((rd_T52 l0 x3_1).f3.f2) true _ A5.out).mono ?_); rintro e w8 ⟨rfl, hb⟩; replace HB := aS (below_step bB hb); (try clear hb); (try clear hb2); (try clear hk); (try clear hi)) | (go_at_call 85; (with_reducible refine (prolepsisref06_alone.calls _ _ l0 x3_1 t383 _ ?side1 ?side2 A7.out).mono ?_); (case side1 => repeat (first | exact (Kd.C_below HR0.out HB.out) | (with_reducible refine Kd.C_alloc ?_ _) | (with_reducible refine Kd.C_drewN ?_ _) | (with_reducible refine Kd.C_drew ?_))); (case side2 => exact HC0.out); rintro e w' ⟨rfl, ⟨nd, rfl⟩⟩; (try first | exact ⟨rfl, _, World.drewN_drewN _ _ _⟩ | exact ⟨rfl, _, Eq.trans (World.drewN_drewN _ _ _) (congrArg (World.drewN _) (Nat.add_assoc _ _ _))⟩))); try go_wp2_with (first | (go_at_call 84; (with_reducible refine (prolepsisref05_Right.calls k1 ((rd_T52 l0 x3_1).f0) ((rd_T52 l0 x3_1).f1.f0) ((rd_T52 l0 x3_1).f1.f1) ((rd_T52 l0 x3_1).f2) ((rd_T52 l0 x3_1).f3.f0) ((rd_T52 l0 x3_1).f3.f1) ((rd_T52 l0 x3_1).f3.f2) true _ A5.out).mono ?_); rintro e w8 ⟨rfl, hb⟩; replace HB := aS (below_step bB hb); (try clear hb); (try clear hb2); (try clear hk); (try clear hi)) | (go_at_call 85; (with_reducible refine (prolepsisref06_alone.calls _ _ l0 x3_1 t383 _ ?side1 ?side2 A7.out).mono ?_); (case side1 => repeat (first | exact (Kd.C_below HR0.out HB.out) | (with_reducible refine Kd.C_alloc ?_ _) | (with_reducible refine Kd.C_drewN ?_ _) | (with_reducible refine Kd.C_drew ?_))); (case side2 => exact HC0.out); rintro e w' ⟨rfl, ⟨nd, rfl⟩⟩; (try first | exact ⟨rfl, _, World.drewN_drewN _ _ _⟩ | exact ⟨rfl, _, Eq.trans (World.drewN_drewN _ _ _) (congrArg (World.drewN _) (Nat.add_assoc _ _ _))⟩))))
      go_meet
      case rel => exact ⟨_, (t383), fS, H', ⟨by have := HK1.out; first | omega | exact Nat.le_refl _⟩, ⟨bB⟩⟩
     ·replace c6 := Bool.eq_false_iff.mpr c6
      subst c6
      have H1 : (prolepsisref06_Right.j1 k1 l0 x3_1 true) = some r := by rw [if_neg (show ¬ (false = true) by decide)] at H; exact H
      clear H
      have H := H1
      clear H1
      have H' := aS H
      clear H
      have p381 : 0 ≤ (x3_1 : Int) := dA
      have q381 : x3_1 < (l0.length : Int) := dA
      obtain ⟨ad381, e381, hx381_0, hx381_1, hx381_2, hx381_3, hx381_4, hx381_5, hx381_6⟩ := at_T52 HR0.out x3_1 p381 q381
      cases e381
      replace hx381_0 := xc HB hx381_0
      replace hx381_1 := xc HB hx381_1
      replace hx381_2 := xc HB hx381_2
      replace hx381_3 := xc HB hx381_3
      replace hx381_4 := xc HB hx381_4
      replace hx381_5 := xc HB hx381_5
      replace hx381_6 := xc HB hx381_6
      replace p381 := eq_true p381
      replace q381 := eq_true q381
      go_wp2_with (first | (go_at_call 84; (with_reducible refine (prolepsisref05_Right.calls k1 ((rd_T52 l0 x3_1).f0) ((rd_T52 l0 x3_1).f1.f0) ((rd_T52 l0 x3_1).f1.f1) ((rd_T52 l0 x3_1).f2) ((rd_T52 l0 x3_1).f3.f0) ((rd_T52 l0 x3_1).f3.f1) ((rd_T52 l0 x3_1).f3.f2) false _ A5.out).mono ?_); rintro e w9 ⟨rfl, hb⟩; replace HB := aS (below_step bB hb); (try clear hb); (try clear hb2); (try clear hk); (try clear hi)))
      repeat (go_quiet (first | (go_at_call 84; (with_reducible refine (prolepsisref05_Right.calls k1 ((rd_T52 l0 x3_1).f0) ((rd_T52 l0 x3_1).f1.f0) ((rd_T52 l0 x3_1).f1.f1) ((rd_T52 l0 x3_1).f2) ((rd_T52 l0 x3_1).f3.f0) ((rd_T52 l0 x3_1).f3.f1) ((rd_T52 l0 x3_1).f3.f2) false _ A5.out).mono ?_); rintro e w9 ⟨rfl, hb⟩; replace HB := aS (below_step bB hb); (try clear hb); (try clear hb2); (try clear hk); (try clear hi))); try go_wp2_with (first | (go_at_call 84; (with_reducible refine (prolepsisref05_Right.calls k1 ((rd_T52 l0 x3_1).f0) ((rd_T52 l0 x3_1).f1.f0) ((rd_T52 l0 x3_1).f1.f1) ((rd_T52 l0 x3_1).f2) ((rd_T52 l0 x3_1).f3.f0) ((rd_T52 l0 x3_1).f3.f1) ((rd_T52 l0 x3_1).f3.f2) false _ A5.out).mono ?_); rintro e w9 ⟨rfl, hb⟩; replace HB := aS (below_step bB hb); (try clear hb); (try clear hb2); (try clear hk); (try clear hi))))
      go_meet
      case rel => exact ⟨_, (true), fS, H', ⟨by have := HK1.out; first | omega | exact Nat.le_refl _⟩, ⟨bB⟩⟩
    case rest =>
     clear HC3
     try clear c2
     try clear c2b0
     try clear p2
     try clear p3
     try clear q3
     try clear hx3
     try clear c4
     try clear c4b0
     try clear c5
     try clear c6
     try clear hx381_0
     try clear hx381_1
     try clear hx381_2
     try clear hx381_3
     try clear hx381_4
     try clear hx381_5
     try clear hx381_6
     try clear p381
     try clear q381
     obtain ⟨kq, x20_2, rfl, HA, HJ2, HB⟩ := hcut
     cases kq with
     | zero => exact absurd HA.out (by simp [prolepsisref06_Right.j1])
     | succ kj2 =>
      have H := HA.out
      clear HA
      simp only [prolepsisref06_Right.j1] at H
      by_cases c10 : x20_2 = true
      ·subst c10
       have H1 : (some false) = some r := by rw [if_pos rfl] at H; exact H
       clear H
       have H := H1
       clear H1
       obtain rfl := Option.some.inj H
       go_wp2
       repeat (go_quiet (fail); try go_wp2)
       go_ret
       exact ⟨by first | rfl | (simp <;> rfl) | (simp [*] <;> rfl), bB⟩
      ·replace c10 := Bool.eq_false_iff.mpr c10
       subst c10
       have H1 : (if 0 ≤ x3_1 then (if x3_1 < (l0.length : Int) then (if ((rd_T52 l0 x3_1).f2) = 0 then (if 0 ≤ (wrap64 (x3_1 - 1)) then (if (wrap64 (x3_1 - 1)) < (l0.length : Int) then (if (!(((rd_T52 l0 x3_1).f3.f0) == ((rd_T52 l0 (wrap64 (x3_1 - 1))).f3.f0)) || (!(((rd_T52 l0 x3_1).f3.f1) == ((rd_T52 l0 (wrap64 (x3_1 - 1))).f3.f1)) || (!(((rd_T52 l0 x3_1).f3.f2) == ((rd_T52 l0 (wrap64 (x3_1 - 1))).f3.f2))))) = true then (some false) else (prolepsisref06_Right.l0 kj2 l0 (wrap64 (x3_1 + 1)))) else (none)) else (none)) else (prolepsisref06_Right.l0 kj2 l0 (wrap64 (x3_1 + 1)))) else (none)) else (none)) = some r := by rw [if_neg (show ¬ (false = true) by decide)] at H; exact H
       clear H
       have H := H1
       clear H1
       obtain ⟨c11, H⟩ := ifS H
       have c11b0 : decide (0 ≤ x3_1) = true := decide_eq_true c11
       clear c11
       obtain ⟨c12, H⟩ := ifS H
       have c12b0 : decide (x3_1 < (l0.length : Int)) = true := decide_eq_true c12
       clear c12
       by_cases c13 : ((rd_T52 l0 x3_1).f2) = 0
       ·rw [if_pos c13] at H
        have c13b0 : (((rd_T52 l0 x3_1).f2) == 0) = true := beq_iff_eq.mpr c13
        have c13b1 : (((rd_T52 l0 x3_1).f2) != 0) = false := bne_eq_false_iff_eq.mpr c13
        clear c13
        obtain ⟨ji14, hji14⟩ : ∃ j_ : Int, (wrap64 (x3_1 - 1)) = j_ := ⟨_, rfl⟩
        replace H : (if 0 ≤ (ji14) then (if (ji14) < (l0.length : Int) then (if (!(((rd_T52 l0 x3_1).f3.f0) == ((rd_T52 l0 (ji14)).f3.f0)) || (!(((rd_T52 l0 x3_1).f3.f1) == ((rd_T52 l0 (ji14)).f3.f1)) || (!(((rd_T52 l0 x3_1).f3.f2) == ((rd_T52 l0 (ji14)).f3.f2))))) = true then (some false) else (prolepsisref06_Right.l0 kj2 l0 (wrap64 (x3_1 + 1)))) else (none)) else (none)) = some r := by first | (rw [hji14] at H; exact H) | (simp only [hji14] at H ⊢; exact H)
        have hji14w : (IntKind.i64.wrap (x3_1 - 1)) = ji14 := (i64_w _).trans hji14
        obtain ⟨c15, H⟩ := ifS H
        have c15b0 : decide (0 ≤ (ji14)) = true := decide_eq_true c15
        clear c15
        obtain ⟨c16, H⟩ := ifS H
        have c16b0 : decide ((ji14) < (l0.length : Int)) = true := decide_eq_true c16
        clear c16
        by_cases c17 : (!(((rd_T52 l0 x3_1).f3.f0) == ((rd_T52 l0 (ji14)).f3.f0)) || (!(((rd_T52 l0 x3_1).f3.f1) == ((rd_T52 l0 (ji14)).f3.f1)) || (!(((rd_T52 l0 x3_1).f3.f2) == ((rd_T52 l0 (ji14)).f3.f2))))) = true
        ·rw [if_pos c17] at H
         have c17b0 : (!(((rd_T52 l0 x3_1).f3.f0) == ((rd_T52 l0 (ji14)).f3.f0)) || (!(((rd_T52 l0 x3_1).f3.f1) == ((rd_T52 l0 (ji14)).f3.f1)) || (!(((rd_T52 l0 x3_1).f3.f2) == ((rd_T52 l0 (ji14)).f3.f2))))) = true := c17
         clear c17
         obtain rfl := Option.some.inj H
         have p384 : 0 ≤ (x3_1 : Int) := dA
         have q384 : x3_1 < (l0.length : Int) := dA
         obtain ⟨ad384, e384, hx384_0, hx384_1, hx384_2, hx384_3, hx384_4, hx384_5, hx384_6⟩ := at_T52 HR0.out x3_1 p384 q384
         cases e384
         replace hx384_0 := xc HB hx384_0
         replace hx384_1 := xc HB hx384_1
         replace hx384_2 := xc HB hx384_2
         replace hx384_3 := xc HB hx384_3
         replace hx384_4 := xc HB hx384_4
         replace hx384_5 := xc HB hx384_5
         replace hx384_6 := xc HB hx384_6
         replace p384 := eq_true p384
         replace q384 := eq_true q384
         have p385 : 0 ≤ (x3_1 : Int) := dA
         have q385 : x3_1 < (l0.length : Int) := dA
         obtain ⟨ad385, e385, hx385_0, hx385_1, hx385_2, hx385_3, hx385_4, hx385_5, hx385_6⟩ := at_T52 HR0.out x3_1 p385 q385
         obtain rfl : ad384 = ad385 := (by injection e385)
         replace hx385_0 := xc HB hx385_0
         replace hx385_1 := xc HB hx385_1
         replace hx385_2 := xc HB hx385_2
         replace hx385_3 := xc HB hx385_3
         replace hx385_4 := xc HB hx385_4
         replace hx385_5 := xc HB hx385_5
         replace hx385_6 := xc HB hx385_6
         replace p385 := eq_true p385
         replace q385 := eq_true q385
         have p386 : 0 ≤ ((ji14) : Int) := dA
         have q386 : (ji14) < (l0.length : Int) := dA
         obtain ⟨ad386, e386, hx386_0, hx386_1, hx386_2, hx386_3, hx386_4, hx386_5, hx386_6⟩ := at_T52 HR0.out (ji14) p386 q386
         obtain rfl : ad384 = ad386 := (by injection e386)
         replace hx386_0 := xc HB hx386_0
         replace hx386_1 := xc HB hx386_1
         replace hx386_2 := xc HB hx386_2
         replace hx386_3 := xc HB hx386_3
         replace hx386_4 := xc HB hx386_4
         replace hx386_5 := xc HB hx386_5
         replace hx386_6 := xc HB hx386_6
         replace p386 := eq_true p386
         replace q386 := eq_true q386
         go_wp2
         repeat (go_quiet (fail); try go_wp2)
         go_ret
         exact ⟨by first | rfl | (simp <;> rfl) | (simp only [← hji14]; first | rfl | (simp <;> rfl)) | (simp [*] <;> rfl), bB⟩
        ·rw [if_neg c17] at H
         have c17b0 : (!(((rd_T52 l0 x3_1).f3.f0) == ((rd_T52 l0 (ji14)).f3.f0)) || (!(((rd_T52 l0 x3_1).f3.f1) == ((rd_T52 l0 (ji14)).f3.f1)) || (!(((rd_T52 l0 x3_1).f3.f2) == ((rd_T52 l0 (ji14)).f3.f2))))) = false := by simpa using c17
         clear c17
         have H' := aS H
         clear H
         have p384 : 0 ≤ (x3_1 : Int) := dA
         have q384 : x3_1 < (l0.length : Int) := dA
         obtain ⟨ad384, e384, hx384_0, hx384_1, hx384_2, hx384_3, hx384_4, hx384_5, hx384_6⟩ := at_T52 HR0.out x3_1 p384 q384
         cases e384
         replace hx384_0 := xc HB hx384_0
         replace hx384_1 := xc HB hx384_1
         replace hx384_2 := xc HB hx384_2
         replace hx384_3 := xc HB hx384_3
         replace hx384_4 := xc HB hx384_4
         replace hx384_5 := xc HB hx384_5
         replace hx384_6 := xc HB hx384_6
         replace p384 := eq_true p384
         replace q384 := eq_true q384
         have p385 : 0 ≤ (x3_1 : Int) := dA
         have q385 : x3_1 < (l0.length : Int) := dA
         obtain ⟨ad385, e385, hx385_0, hx385_1, hx385_2, hx385_3, hx385_4, hx385_5, hx385_6⟩ := at_T52 HR0.out x3_1 p385 q385
         obtain rfl : ad384 = ad385 := (by injection e385)
         replace hx385_0 := xc HB hx385_0
         replace hx385_1 := xc HB hx385_1
         replace hx385_2 := xc HB hx385_2
         replace hx385_3 := xc HB hx385_3
         replace hx385_4 := xc HB hx385_4
         replace hx385_5 := xc HB hx385_5
         replace hx385_6 := xc HB hx385_6
         replace p385 := eq_true p385
         replace q385 := eq_true q385
         have p386 : 0 ≤ ((ji14) : Int) := dA
         have q386 : (ji14) < (l0.length : Int) := dA
         obtain ⟨ad386, e386, hx386_0, hx386_1, hx386_2, hx386_3, hx386_4, hx386_5, hx386_6⟩ := at_T52 HR0.out (ji14) p386 q386
         obtain rfl : ad384 = ad386 := (by injection e386)
         replace hx386_0 := xc HB hx386_0
         replace hx386_1 := xc HB hx386_1
         replace hx386_2 := xc HB hx386_2
         replace hx386_3 := xc HB hx386_3
         replace hx386_4 := xc HB hx386_4
         replace hx386_5 := xc HB hx386_5
         replace hx386_6 := xc HB hx386_6
         replace p386 := eq_true p386
         replace q386 := eq_true q386
         go_wp2
         repeat (go_quiet (fail); try go_wp2)
         go_roundg kj2
         case measure => have := HK1.out; have := HJ2.out; omega
         case rel => exact ⟨(wrap64 (x3_1 + 1)), fS, H', ⟨by have := HK1.out; have := HJ2.out; omega⟩, ⟨bB⟩⟩
       ·rw [if_neg c13] at H
        have c13b0 : (((rd_T52 l0 x3_1).f2) == 0) = false := beq_eq_false_iff_ne.mpr c13
        have c13b1 : (((rd_T52 l0 x3_1).f2) != 0) = true := bne_iff_ne.mpr c13
        have H' := aS H
        clear H
        have p384 : 0 ≤ (x3_1 : Int) := dA
        have q384 : x3_1 < (l0.length : Int) := dA
        obtain ⟨ad384, e384, hx384_0, hx384_1, hx384_2, hx384_3, hx384_4, hx384_5, hx384_6⟩ := at_T52 HR0.out x3_1 p384 q384
        cases e384
        replace hx384_0 := xc HB hx384_0
        replace hx384_1 := xc HB hx384_1
        replace hx384_2 := xc HB hx384_2
        replace hx384_3 := xc HB hx384_3
        replace hx384_4 := xc HB hx384_4
        replace hx384_5 := xc HB hx384_5
        replace hx384_6 := xc HB hx384_6
        replace p384 := eq_true p384
        replace q384 := eq_true q384
        go_wp2
        repeat (go_quiet (fail); try go_wp2)
        go_roundg kj2
        case measure => have := HK1.out; have := HJ2.out; omega
        case rel => exact ⟨(wrap64 (x3_1 + 1)), fS, H', ⟨by have := HK1.out; have := HJ2.out; omega⟩, ⟨bB⟩⟩
   ·rw [if_neg c2] at H
    have c2b0 : decide (x3_1 < (l0.length : Int)) = false := decide_eq_false c2
    clear c2
    obtain rfl := Option.some.inj H
    go_wp2
    repeat (go_quiet (fail); try go_wp2)
    go_ret
    exact ⟨by first | rfl | (simp <;> rfl) | (simp [*] <;> rfl), bB⟩
def prolepsislaw06_Of.l0 : Nat → List (S40) → List (S52) → Int → Option ((List (S52)))
 | 0, _, _, _ => none
 | k + 1, x0, x3, x4 => if x4 < (x0.length : Int) then (if 0 ≤ x4 then ((prolepsislaw05_Of.f ((rd_T40 x0 x4).f0) ((rd_T40 x0 x4).f1.f0) ((rd_T40 x0 x4).f1.f1) ((rd_T40 x0 x4).f2) ((rd_T40 x0 x4).f3.f0) ((rd_T40 x0 x4).f3.f1) ((rd_T40 x0 x4).f3.f2)).bind fun bt388 => (if x3.length < 4398046511104 then (prolepsislaw06_Of.l0 k x0 (x3 ++ [(⟨bt388.1, (⟨bt388.2.1, bt388.2.2.1⟩ : S49), bt388.2.2.2.1, (⟨bt388.2.2.2.2.1, bt388.2.2.2.2.2.1, bt388.2.2.2.2.2.2⟩ : S50)⟩ : S52)]) (wrap64 (x4 + 1))) else (none))) else (none)) else (some x3)
def prolepsislaw06_Of.f (k : Nat) (l0 : List (S40)) : Option ((List (S52))) := prolepsislaw06_Of.l0 k l0 ([] : List (S52)) 0
set_option maxHeartbeats 8000000 in
set_option maxRecDepth 100000 in
theorem prolepsislaw06_Of.calls (k : Nat) (A0 : Option Addr) (c0 : Nat) (l0 : List (S40)) (r : List (S52)) (w : World) (hr0 : Kd.C k40 w A0 l0.length l0) (hc0 : l0.length ≤ c0) (h : prolepsislaw06_Of.f k l0 = some r) :
 Calls Tryz.prog 37 #[.slice A0 l0.length c0] w fun e w' => ∃ v0_ : Value, e = .returned (v0_) ∧ Kd.R k52 52 w' w.heap.size (fun _ => True) v0_ r ∧ Below w.heap.size w w' := by
 have hu40 := Tryz.underlying40
 have HR0 := aS hr0
 have HC0 := aS hc0
 clear hr0 hc0
 have HB := aS (Below.refl w.heap.size w)
 have H : (prolepsislaw06_Of.l0 k l0 ([] : List (S52)) 0) = some r := h
 clear h
 have H' := aS H
 clear H
 go_enter Tryz.func37, Tryz.ntmps37
 go_wp2
 go_loopg [3, 4] k (fun kq v3 v4 w' => ∃ (x3_1 : List (S52)) (x4_1 : Int), v4 = .int .i64 x4_1 ∧ Aside0 (prolepsislaw06_Of.l0 kq l0 x3_1 x4_1 = some r) ∧ Aside0 (kq ≤ k) ∧ Aside0 (Kd.R k52 52 w' w.heap.size (fun _ => True) v3 x3_1) ∧ Aside0 (Below w.heap.size w w'))
 case atStart => exact ⟨(([] : List (S52))), (0), fS, H', ⟨Nat.le_refl _⟩, ⟨by first | exact Kd.R_nil _ _ _ _ _ | exact Kd.N_nil _ _ _ _ _ | exact Kd.V_nil _ _ _ _ _ | exact Kd.Q_nil _ _ _ _ _ | exact Kd.S_nil _ _ _ _ _⟩, ⟨bB⟩⟩
 case round =>
  clear H'
  obtain ⟨x3_1, x4_1, rfl, HA, HK1, HO_3, HB⟩ := hrel
  cases gk with
  | zero => exact absurd HA.out (by simp [prolepsislaw06_Of.l0])
  | succ k1 =>
   have H := HA.out
   clear HA
   simp only [prolepsislaw06_Of.l0] at H
   by_cases c2 : x4_1 < (l0.length : Int)
   ·rw [if_pos c2] at H
    have c2b0 : decide (x4_1 < (l0.length : Int)) = true := decide_eq_true c2
    clear c2
    obtain ⟨c3, H⟩ := ifS H
    have c3b0 : decide (0 ≤ x4_1) = true := decide_eq_true c3
    clear c3
    replace H := Option.bind_eq_some_iff.mp H
    obtain ⟨⟨t388, t389, t390, t391, t392, t393, t394⟩, A40, H⟩ := H
    try dsimp only at H
    have A4 := aS A40
    clear A40
    obtain ⟨c5, H⟩ := ifS H
    have LMc5 := aS c5
    clear c5
    obtain ⟨y395, hy395⟩ : ∃ y_ : List (S52), y_ = (x3_1 ++ [(⟨t388, (⟨t389, t390⟩ : S49), t391, (⟨t392, t393, t394⟩ : S50)⟩ : S52)]) := ⟨_, rfl⟩
    replace H : (prolepsislaw06_Of.l0 k1 l0 y395 (wrap64 (x4_1 + 1))) = some r := rq hy395 H
    have Ny395 := aS hy395
    clear hy395
    have H' := aS H
    clear H
    have p387 : 0 ≤ (x4_1 : Int) := dA
    have q387 : x4_1 < (l0.length : Int) := dA
    obtain ⟨ad387, e387, hx387_0, hx387_1, hx387_2, hx387_3, hx387_4, hx387_5, hx387_6⟩ := at_T40 HR0.out x4_1 p387 q387
    cases e387
    replace hx387_0 := xc HB hx387_0
    replace hx387_1 := xc HB hx387_1
    replace hx387_2 := xc HB hx387_2
    replace hx387_3 := xc HB hx387_3
    replace hx387_4 := xc HB hx387_4
    replace hx387_5 := xc HB hx387_5
    replace hx387_6 := xc HB hx387_6
    replace p387 := eq_true p387
    replace q387 := eq_true q387
    go_wp2_with (first | (refine gL 15 16 Tryz.func15 #[.agg #[.int .i32 ((rd_T40 l0 x4_1).f0), .int .i32 ((rd_T40 l0 x4_1).f1.f0), .int .i32 ((rd_T40 l0 x4_1).f1.f1), .int .u8 ((rd_T40 l0 x4_1).f2), .int .u8 ((rd_T40 l0 x4_1).f3.f0), .int .u8 ((rd_T40 l0 x4_1).f3.f1), .int .u8 ((rd_T40 l0 x4_1).f3.f2)]] ?_; (with_reducible refine (prolepsislaw05_Of.calls ((rd_T40 l0 x4_1).f0) ((rd_T40 l0 x4_1).f1.f0) ((rd_T40 l0 x4_1).f1.f1) ((rd_T40 l0 x4_1).f2) ((rd_T40 l0 x4_1).f3.f0) ((rd_T40 l0 x4_1).f3.f1) ((rd_T40 l0 x4_1).f3.f2) t388 t389 t390 t391 t392 t393 t394 _ A4.out).mono ?_); rintro e w6 ⟨rfl, hb⟩; refine ⟨_, rfl, ?_⟩; replace HO_3 := aS (Kd.R_below (rr HO_3) hb); replace HB := aS (below_step bB hb); (try clear hb); (try clear hb2); (try clear hk); (try clear hi)) | ((with_reducible refine gate_builtin (b := .append) (xs := #[.tmp 11, .tmp 17]) rfl ?_); at_builtin; refine Kd.R_append k52 (w0 := w) w.heap.size rfl (.tmp 11) (.tmp 17) 72 52 (.agg #[(.int .i64 0), (.int .i64 0), (.int .i64 0), (.int .u8 0), (.int .u8 0), (.int .u8 0), (.int .u8 0)]) 32 rfl Tryz.underlying72 info52 rfl (by decide) (by omega) u3 x3_1 (⟨t388, (⟨t389, t390⟩ : S49), t391, (⟨t392, t393, t394⟩ : S50)⟩ : S52) [.int .i64 t388, .int .i64 t389, .int .i64 t390, .int .u8 t391, .int .u8 t392, .int .u8 t393, .int .u8 t394] (fun _ => True) (fun _ => False) rfl rfl ?aP (fun _ hk => hk.elim) ?aF ?aO ?aB ?aS ?aL ?_; (case aP => exact k52_mkM _ _ _ (⟨t388, (⟨t389, t390⟩ : S49), t391, (⟨t392, t393, t394⟩ : S50)⟩ : S52)); (case aB => exact bB); (case aF => exact (fun _ _ => trivial)); (case aO => exact (rr HO_3)); (case aS => exact (below_size bB)); (case aL => have := LMc5.out; omega); intro v396 w7 ho hb hg hat; rw [← Ny395.out] at ho; replace HB := aS (hb); have HO397 := aS (ho); clear HO_3; clear ho hb hg hat))
    go_roundg k1
    case measure => have := HK1.out; omega
    case rel => exact ⟨(y395), (wrap64 (x4_1 + 1)), fS, H', ⟨by have := HK1.out; omega⟩, ⟨rr HO397⟩, ⟨bB⟩⟩
   ·rw [if_neg c2] at H
    have c2b0 : decide (x4_1 < (l0.length : Int)) = false := decide_eq_false c2
    clear c2
    obtain rfl := Option.some.inj H
    go_wp2
    go_ret
    exact ⟨_, by first | rfl | (simp <;> rfl) | (simp [*] <;> rfl), rr HO_3, bB⟩
def prolepsisref07_bring.f (a0 : Int) (a1 : Int) : Option (Int) := if a0 ≥ a1 then (if (wrap64 (a1 - 1)) < 0 then (some 0) else (some (wrap64 (a1 - 1)))) else (if a0 < 0 then (some 0) else (some a0))
set_option maxHeartbeats 8000000 in
set_option maxRecDepth 100000 in
theorem prolepsisref07_bring.calls (a0 : Int) (a1 : Int) (r : Int) (w : World) (h : prolepsisref07_bring.f a0 a1 = some r) :
 Calls Tryz.prog 74 #[.int .i64 a0, .int .i64 a1] w fun e w' => e = .returned (.int .i64 r) ∧ Drawn0 w w' := by
 have H : (if a0 ≥ a1 then (if (wrap64 (a1 - 1)) < 0 then (some 0) else (some (wrap64 (a1 - 1)))) else (if a0 < 0 then (some 0) else (some a0))) = some r := h
 clear h
 by_cases c3 : a0 ≥ a1
 ·rw [if_pos c3] at H
  have c3b0 : decide (a1 ≤ a0) = true := decide_eq_true c3
  clear c3
  by_cases c4 : (wrap64 (a1 - 1)) < 0
  ·rw [if_pos c4] at H
   have c4b0 : decide ((wrap64 (a1 - 1)) < 0) = true := decide_eq_true c4
   clear c4
   obtain rfl := Option.some.inj H
   go_enter Tryz.func74, Tryz.ntmps74
   go_wp2
   go_ret
   exact ⟨by first | rfl | (simp; done) | (simp [*]; done), by repeat (first | exact Drawn0.refl _ | apply Drawn0.step)⟩
  ·rw [if_neg c4] at H
   have c4b0 : decide ((wrap64 (a1 - 1)) < 0) = false := decide_eq_false c4
   clear c4
   obtain rfl := Option.some.inj H
   go_enter Tryz.func74, Tryz.ntmps74
   go_wp2
   go_ret
   exact ⟨by first | rfl | (simp; done) | (simp [*]; done), by repeat (first | exact Drawn0.refl _ | apply Drawn0.step)⟩
 ·rw [if_neg c3] at H
  have c3b0 : decide (a1 ≤ a0) = false := decide_eq_false c3
  clear c3
  by_cases c5 : a0 < 0
  ·rw [if_pos c5] at H
   have c5b0 : decide (a0 < 0) = true := decide_eq_true c5
   clear c5
   obtain rfl := Option.some.inj H
   go_enter Tryz.func74, Tryz.ntmps74
   go_wp2
   go_ret
   exact ⟨by first | rfl | (simp; done) | (simp [*]; done), by repeat (first | exact Drawn0.refl _ | apply Drawn0.step)⟩
  ·rw [if_neg c5] at H
   have c5b0 : decide (a0 < 0) = false := decide_eq_false c5
   clear c5
   obtain rfl := Option.some.inj H
   go_enter Tryz.func74, Tryz.ntmps74
   go_wp2
   go_ret
   exact ⟨by first | rfl | (simp; done) | (simp [*]; done), by repeat (first | exact Drawn0.refl _ | apply Drawn0.step)⟩
end Go.Proofs.YtblcmcdifgclcaaGreat.PGridPlays
