/- GridApart: what its proof leads to. No condition. -/
import Derived.Test.YtblcmcdifgclcaaG8qGridApart
import Derived.Test.YtblcmcdifgclcaaG12qGridApart
import Derived.Test.YtblcmcdifgclcaaG14qGridApart
import Derived.Test.YtblcmcdifgclcaaG15qGridApart
import Derived.Test.YtblcmcdifgclcaaG4qGridApart
namespace Go.Proofs.Ytblcmcdifgclcaa.PGridSame
open Go.RowKit Go.Proofs.YtblcmcdifgclcaaW.PrintWords Go.Proofs.YtblcmcdifgclcaaW.PrintLast Go.Proofs.YtblcmcdifgclcaaW.PrintMore
attribute [local go_sem] isSome_setCell max2_int min2_int max_two min_two
set_option linter.unusedVariables false
set_option linter.unusedSimpArgs false
attribute [local go_sem high] eqA30
def prolepsisref06_Erase.l0 : Nat → List (S32) → Int → Int → List (S32) → Int → Int → Int → Int → Option ((List (S32)))
 | 0, _, _, _, _, _, _, _, _ => none
 | k + 1, x0, x1, x2, x9, x10, x372000, x372001, x372002 => if x10 < (x0.length : Int) then (if 0 ≤ x10 then (if x10 ≥ x1 then (if x10 < x2 then ((prolepsisref05_Blank.f x372000 x372001 x372002).bind fun bt374 => (if x9.length < 4398046511104 then (prolepsisref06_Erase.l0 k x0 x1 x2 (x9 ++ [(⟨bt374.1, (⟨bt374.2.1, bt374.2.2.1⟩ : S29), bt374.2.2.2.1, (⟨bt374.2.2.2.2.1, bt374.2.2.2.2.2.1, bt374.2.2.2.2.2.2⟩ : S30)⟩ : S32)]) (wrap64 (x10 + 1)) x372000 x372001 x372002) else (none))) else (if x9.length < 4398046511104 then (prolepsisref06_Erase.l0 k x0 x1 x2 (x9 ++ [(⟨(rd_T32 x0 x10).f0, (⟨(rd_T32 x0 x10).f1.f0, (rd_T32 x0 x10).f1.f1⟩ : S29), (rd_T32 x0 x10).f2, (⟨(rd_T32 x0 x10).f3.f0, (rd_T32 x0 x10).f3.f1, (rd_T32 x0 x10).f3.f2⟩ : S30)⟩ : S32)]) (wrap64 (x10 + 1)) x372000 x372001 x372002) else (none))) else (if x9.length < 4398046511104 then (prolepsisref06_Erase.l0 k x0 x1 x2 (x9 ++ [(⟨(rd_T32 x0 x10).f0, (⟨(rd_T32 x0 x10).f1.f0, (rd_T32 x0 x10).f1.f1⟩ : S29), (rd_T32 x0 x10).f2, (⟨(rd_T32 x0 x10).f3.f0, (rd_T32 x0 x10).f3.f1, (rd_T32 x0 x10).f3.f2⟩ : S30)⟩ : S32)]) (wrap64 (x10 + 1)) x372000 x372001 x372002) else (none))) else (none)) else ((prolepsisref06_Mend.f k x9).bind fun t390 => (some t390))
def prolepsisref06_Erase.f (k : Nat) (l0 : List (S32)) (a1 : Int) (a2 : Int) (a3_0 : Int) (a3_1 : Int) (a3_2 : Int) : Option ((List (S32))) := prolepsisref06_Erase.l0 k l0 a1 a2 ([] : List (S32)) 0 a3_0 a3_1 a3_2
set_option maxHeartbeats 8000000 in
set_option maxRecDepth 100000 in
theorem prolepsisref06_Erase.calls (k : Nat) (A0 : Option Addr) (c0 : Nat) (l0 : List (S32)) (a1 : Int) (a2 : Int) (a3_0 : Int) (a3_1 : Int) (a3_2 : Int) (r : List (S32)) (w : World) (hr0 : Kd.C k32 w A0 l0.length l0) (hc0 : l0.length ≤ c0) (h : prolepsisref06_Erase.f k l0 a1 a2 a3_0 a3_1 a3_2 = some r) :
 Calls Try.prog 47 #[.slice A0 l0.length c0, .int .i64 a1, .int .i64 a2, .agg #[.int .u8 a3_0, .int .u8 a3_1, .int .u8 a3_2]] w fun e w' => ∃ v0_ : Value, e = .returned (v0_) ∧ Kd.R k32 32 w' w.heap.size (fun _ => True) v0_ r ∧ Below w.heap.size w w' := by
 have hu30 := Try.underlying30
 have hu32 := Try.underlying32
 have HR0 := aS hr0
 have HC0 := aS hc0
 clear hr0 hc0
 have HB := aS (Below.refl w.heap.size w)
 have H : (prolepsisref06_Erase.l0 k l0 a1 a2 ([] : List (S32)) 0 a3_0 a3_1 a3_2) = some r := h
 clear h
 have H' := aS H
 clear H
 go_enter Try.func47, Try.ntmps47
 go_wp2_with (first | (refine bx 7 #[.int .u8 a3_0, .int .u8 a3_1, .int .u8 a3_2] 30 ?_; intro gb371 hg w5 hbox hb; have BK371 := aS (hbox); have GW371 := aS (gw HB hg); have GE371 := aS (gw HB hg); replace HB := aS (below_step bB hb); clear hb hbox hg))
 go_loopg [9, 10] k (fun kq v9 v10 w' => ∃ (x9_1 : List (S32)) (x10_1 : Int), v10 = .int .i64 x10_1 ∧ Aside0 (prolepsisref06_Erase.l0 kq l0 a1 a2 x9_1 x10_1 a3_0 a3_1 a3_2 = some r) ∧ Aside0 (kq ≤ k) ∧ Aside0 (Kd.R k32 32 w' w.heap.size (fun _ => True) v9 x9_1) ∧ Aside0 (w'.heap[gb371]? = some (.cells #[.int .u8 a3_0, .int .u8 a3_1, .int .u8 a3_2] 30 (0, 0))) ∧ Aside0 (Below w.heap.size w w'))
 case atStart => exact ⟨(([] : List (S32))), (0), fS, H', ⟨Nat.le_refl _⟩, ⟨by first | exact Kd.R_nil _ _ _ _ _ | exact Kd.N_nil _ _ _ _ _ | exact Kd.V_nil _ _ _ _ _ | exact Kd.Q_nil _ _ _ _ _ | exact Kd.S_nil _ _ _ _ _⟩, ⟨kb BK371⟩, ⟨bS⟩⟩
 case round =>
  clear H'
  try clear p2
  try clear c4
  obtain ⟨x9_1, x10_1, rfl, HA, HK1, HO_9, BK371, HB⟩ := hrel
  cases gk with
  | zero => exact absurd HA.out (by simp [prolepsisref06_Erase.l0])
  | succ k1 =>
   have H := HA.out
   clear HA
   simp only [prolepsisref06_Erase.l0] at H
   by_cases c6 : x10_1 < (l0.length : Int)
   ·rw [if_pos c6] at H
    have c6b0 : decide (x10_1 < (l0.length : Int)) = true := decide_eq_true c6
    clear c6
    obtain ⟨c7, H⟩ := ifS H
    have c7b0 : decide (0 ≤ x10_1) = true := decide_eq_true c7
    clear c7
    by_cases c8 : x10_1 ≥ a1
    ·rw [if_pos c8] at H
     have c8b0 : decide (a1 ≤ x10_1) = true := decide_eq_true c8
     clear c8
     by_cases c9 : x10_1 < a2
     ·rw [if_pos c9] at H
      have c9b0 : decide (x10_1 < a2) = true := decide_eq_true c9
      clear c9
      replace H := Option.bind_eq_some_iff.mp H
      obtain ⟨⟨t374, t375, t376, t377, t378, t379, t380⟩, A100, H⟩ := H
      try dsimp only at H
      have A10 := aS A100
      clear A100
      obtain ⟨c11, H⟩ := ifS H
      have LMc11 := aS c11
      clear c11
      obtain ⟨y381, hy381⟩ : ∃ y_ : List (S32), y_ = (x9_1 ++ [(⟨t374, (⟨t375, t376⟩ : S29), t377, (⟨t378, t379, t380⟩ : S30)⟩ : S32)]) := ⟨_, rfl⟩
      replace H : (prolepsisref06_Erase.l0 k1 l0 a1 a2 y381 (wrap64 (x10_1 + 1)) a3_0 a3_1 a3_2) = some r := rq hy381 H
      have Ny381 := aS hy381
      clear hy381
      have H' := aS H
      clear H
      have p372 : 0 ≤ (x10_1 : Int) := dA
      have q372 : x10_1 < (l0.length : Int) := dA
      obtain ⟨ad372, e372, hx372_0, hx372_1, hx372_2, hx372_3, hx372_4, hx372_5, hx372_6⟩ := at_T32 HR0.out x10_1 p372 q372
      cases e372
      replace hx372_0 := xc HB hx372_0
      replace hx372_1 := xc HB hx372_1
      replace hx372_2 := xc HB hx372_2
      replace hx372_3 := xc HB hx372_3
      replace hx372_4 := xc HB hx372_4
      replace hx372_5 := xc HB hx372_5
      replace hx372_6 := xc HB hx372_6
      replace p372 := eq_true p372
      replace q372 := eq_true q372
      go_wp2_with (first | (refine bx 11 #[.int .i64 0, .int .i64 0, .int .i64 0, .int .u8 0, .int .u8 0, .int .u8 0, .int .u8 0] 32 ?_; intro gb373 hg w12 hbox hb; replace HO_9 := aS (Kd.R_below (Kd.R_elderB (rr HO_9) gb373 (Nat.le_of_eq hg.symm)) hb); have BK373 := aS (hbox); have GW373 := aS (gw HB hg); have GE373 := aS (gw HB hg); replace HB := aS (below_step bS hb); have NB371_373 := aS ((by rw [hg]; exact Nat.ne_of_lt (blk_lt (kb BK371)) : gb371 ≠ gb373)); have NB373_371 := aS ((by rw [hg]; exact Nat.ne_of_gt (blk_lt (kb BK371)) : gb373 ≠ gb371)); replace BK371 := aS (blk_below (kb BK371) hb); clear hb hbox hg; have hnb13 := NB373_371.out; have hnc13 := NB371_373.out; have hz14 := cel7 BK373.out; have hz15 := cel3 BK371.out) | (refine gL 22 31 Try.func22 #[.agg #[.int .u8 a3_0, .int .u8 a3_1, .int .u8 a3_2]] ?_; (with_reducible refine (prolepsisref05_Blank.calls a3_0 a3_1 a3_2 t374 t375 t376 t377 t378 t379 t380 _ A10.out).mono ?_); rintro e w16 ⟨rfl, hb⟩; refine ⟨_, rfl, ?_⟩; replace HO_9 := aS (Kd.R_below (by (with_reducible repeat (first | apply rA | apply rN | apply rD)); exact (Kd.R_mono (rK (Kd.R_mono HO_9.out (fun k_ hk => (⟨hk, hk.2⟩ : _ ∧ k_ ≠ gb373)))) (fun _ h_ => h_.1))) hb); replace BK371 := aS (blk_below (g := gb371) (o := .cells #[.int .u8 a3_0, .int .u8 a3_1, .int .u8 a3_2] 30 (0, 0)) (kp BK371) hb); replace BK373 := aS (blk_below (g := gb373) (o := .cells #[.int .i64 ((rd_T32 l0 x10_1).f0), .int .i64 ((rd_T32 l0 x10_1).f1.f0), .int .i64 ((rd_T32 l0 x10_1).f1.f1), .int .u8 ((rd_T32 l0 x10_1).f2), .int .u8 ((rd_T32 l0 x10_1).f3.f0), .int .u8 ((rd_T32 l0 x10_1).f3.f1), .int .u8 ((rd_T32 l0 x10_1).f3.f2)] 32 (0, 0)) (kp BK373) hb); replace HB := aS (below_step bS hb); (try clear hb); (try clear hb2); (try clear hk); (try clear hi); have hz17 := cel7 BK373.out) | ((with_reducible refine gate_builtin (b := .append) (xs := #[.tmp 32, .tmp 34]) rfl ?_); at_builtin; refine Kd.R_append k32 (w0 := w) w.heap.size rfl (.tmp 32) (.tmp 34) 67 32 (.agg #[(.int .i64 0), (.int .i64 0), (.int .i64 0), (.int .u8 0), (.int .u8 0), (.int .u8 0), (.int .u8 0)]) 32 rfl Try.underlying67 info32 rfl (by decide) (by omega) u9 x9_1 (⟨t374, (⟨t375, t376⟩ : S29), t377, (⟨t378, t379, t380⟩ : S30)⟩ : S32) [.int .i64 t374, .int .i64 t375, .int .i64 t376, .int .u8 t377, .int .u8 t378, .int .u8 t379, .int .u8 t380] (fun k_ => k_ ≠ gb373) (fun _ => False) rfl (by first | (go_simp; done) | (go_simp; rfl)) ?aP (fun _ hk => hk.elim) ?aF ?aO ?aB ?aS ?aL ?_; (case aP => exact k32_mkM _ _ _ (⟨t374, (⟨t375, t376⟩ : S29), t377, (⟨t378, t379, t380⟩ : S30)⟩ : S32)); (case aB => exact bS); (case aF => exact (fun k_ hk => Kd.freshB (g := gb373) (o := .cells #[.int .i64 t374, .int .i64 t375, .int .i64 t376, .int .u8 t377, .int .u8 t378, .int .u8 t379, .int .u8 t380] 32 (0, 0)) (kp BK373) k_ hk)); (case aO => exact (by (with_reducible repeat (first | apply rA | apply rN | apply rD)); exact Kd.R_mono (rK (Kd.R_mono HO_9.out (fun k_ hk => (⟨hk, hk.2⟩ : _ ∧ k_ ≠ gb373)))) (fun _ hk => hk.1.2))); (case aS => exact (below_size bS)); (case aL => have := LMc11.out; omega); intro v382 w18 ho hb hg hat; rw [← Ny381.out] at ho; replace BK371 := aS (blk_grown (g := gb371) (o := .cells #[.int .u8 a3_0, .int .u8 a3_1, .int .u8 a3_2] 30 (0, 0)) (kp BK371) hg (Kd.R_ne HO_9.out BK371.out (by decide))); replace BK373 := aS (blk_grown (g := gb373) (o := .cells #[.int .i64 t374, .int .i64 t375, .int .i64 t376, .int .u8 t377, .int .u8 t378, .int .u8 t379, .int .u8 t380] 32 (0, 0)) (kp BK373) hg (Kd.R_away HO_9.out (fun _ hk => hk.2))); replace HB := aS (hb); have HO383 := aS (ho); clear HO_9; clear ho hb hg hat))
      go_roundg k1
      case measure => have := HK1.out; omega
      case rel => exact ⟨(y381), (wrap64 (x10_1 + 1)), fS, H', ⟨by have := HK1.out; omega⟩, ⟨by (with_reducible repeat (first | apply rA | apply rN | apply rD)); exact Kd.R_mono HO383.out (fun _ hk => trivial)⟩, ⟨kb BK371⟩, ⟨bS⟩⟩
     ·rw [if_neg c9] at H
      have c9b0 : decide (x10_1 < a2) = false := decide_eq_false c9
      clear c9
      obtain ⟨c19, H⟩ := ifS H
      have LMc19 := aS c19
      clear c19
      obtain ⟨y384, hy384⟩ : ∃ y_ : List (S32), y_ = (x9_1 ++ [(⟨(rd_T32 l0 x10_1).f0, (⟨(rd_T32 l0 x10_1).f1.f0, (rd_T32 l0 x10_1).f1.f1⟩ : S29), (rd_T32 l0 x10_1).f2, (⟨(rd_T32 l0 x10_1).f3.f0, (rd_T32 l0 x10_1).f3.f1, (rd_T32 l0 x10_1).f3.f2⟩ : S30)⟩ : S32)]) := ⟨_, rfl⟩
      replace H : (prolepsisref06_Erase.l0 k1 l0 a1 a2 y384 (wrap64 (x10_1 + 1)) a3_0 a3_1 a3_2) = some r := rq hy384 H
      have Ny384 := aS hy384
      clear hy384
      have H' := aS H
      clear H
      have p372 : 0 ≤ (x10_1 : Int) := dA
      have q372 : x10_1 < (l0.length : Int) := dA
      obtain ⟨ad372, e372, hx372_0, hx372_1, hx372_2, hx372_3, hx372_4, hx372_5, hx372_6⟩ := at_T32 HR0.out x10_1 p372 q372
      cases e372
      replace hx372_0 := xc HB hx372_0
      replace hx372_1 := xc HB hx372_1
      replace hx372_2 := xc HB hx372_2
      replace hx372_3 := xc HB hx372_3
      replace hx372_4 := xc HB hx372_4
      replace hx372_5 := xc HB hx372_5
      replace hx372_6 := xc HB hx372_6
      replace p372 := eq_true p372
      replace q372 := eq_true q372
      go_wp2_with (first | (refine bx 11 #[.int .i64 0, .int .i64 0, .int .i64 0, .int .u8 0, .int .u8 0, .int .u8 0, .int .u8 0] 32 ?_; intro gb373 hg w20 hbox hb; replace HO_9 := aS (Kd.R_below (Kd.R_elderB (rr HO_9) gb373 (Nat.le_of_eq hg.symm)) hb); have BK373 := aS (hbox); have GW373 := aS (gw HB hg); have GE373 := aS (gw HB hg); replace HB := aS (below_step bS hb); have NB371_373 := aS ((by rw [hg]; exact Nat.ne_of_lt (blk_lt (kb BK371)) : gb371 ≠ gb373)); have NB373_371 := aS ((by rw [hg]; exact Nat.ne_of_gt (blk_lt (kb BK371)) : gb373 ≠ gb371)); replace BK371 := aS (blk_below (kb BK371) hb); clear hb hbox hg; have hnb21 := NB373_371.out; have hnc21 := NB371_373.out; have hz22 := cel7 BK373.out) | ((with_reducible refine gate_builtin (b := .append) (xs := #[.tmp 32, .tmp 34]) rfl ?_); at_builtin; refine Kd.R_append k32 (w0 := w) w.heap.size rfl (.tmp 32) (.tmp 34) 67 32 (.agg #[(.int .i64 0), (.int .i64 0), (.int .i64 0), (.int .u8 0), (.int .u8 0), (.int .u8 0), (.int .u8 0)]) 32 rfl Try.underlying67 info32 rfl (by decide) (by omega) u9 x9_1 (⟨(rd_T32 l0 x10_1).f0, (⟨(rd_T32 l0 x10_1).f1.f0, (rd_T32 l0 x10_1).f1.f1⟩ : S29), (rd_T32 l0 x10_1).f2, (⟨(rd_T32 l0 x10_1).f3.f0, (rd_T32 l0 x10_1).f3.f1, (rd_T32 l0 x10_1).f3.f2⟩ : S30)⟩ : S32) [.int .i64 ((rd_T32 l0 x10_1).f0), .int .i64 ((rd_T32 l0 x10_1).f1.f0), .int .i64 ((rd_T32 l0 x10_1).f1.f1), .int .u8 ((rd_T32 l0 x10_1).f2), .int .u8 ((rd_T32 l0 x10_1).f3.f0), .int .u8 ((rd_T32 l0 x10_1).f3.f1), .int .u8 ((rd_T32 l0 x10_1).f3.f2)] (fun k_ => k_ ≠ gb373) (fun _ => False) rfl (by first | (go_simp; done) | (go_simp; rfl)) ?aP (fun _ hk => hk.elim) ?aF ?aO ?aB ?aS ?aL ?_; (case aP => exact k32_mkM _ _ _ (⟨(rd_T32 l0 x10_1).f0, (⟨(rd_T32 l0 x10_1).f1.f0, (rd_T32 l0 x10_1).f1.f1⟩ : S29), (rd_T32 l0 x10_1).f2, (⟨(rd_T32 l0 x10_1).f3.f0, (rd_T32 l0 x10_1).f3.f1, (rd_T32 l0 x10_1).f3.f2⟩ : S30)⟩ : S32)); (case aB => exact bS); (case aF => exact (fun k_ hk => Kd.freshB (g := gb373) (o := .cells #[.int .i64 ((rd_T32 l0 x10_1).f0), .int .i64 ((rd_T32 l0 x10_1).f1.f0), .int .i64 ((rd_T32 l0 x10_1).f1.f1), .int .u8 ((rd_T32 l0 x10_1).f2), .int .u8 ((rd_T32 l0 x10_1).f3.f0), .int .u8 ((rd_T32 l0 x10_1).f3.f1), .int .u8 ((rd_T32 l0 x10_1).f3.f2)] 32 (0, 0)) (kp BK373) k_ hk)); (case aO => exact (by (with_reducible repeat (first | apply rA | apply rN | apply rD)); exact Kd.R_mono (rK (Kd.R_mono HO_9.out (fun k_ hk => (⟨hk, hk.2⟩ : _ ∧ k_ ≠ gb373)))) (fun _ hk => hk.1.2))); (case aS => exact (below_size bS)); (case aL => have := LMc19.out; omega); intro v385 w23 ho hb hg hat; rw [← Ny384.out] at ho; replace BK371 := aS (blk_grown (g := gb371) (o := .cells #[.int .u8 a3_0, .int .u8 a3_1, .int .u8 a3_2] 30 (0, 0)) (kp BK371) hg (Kd.R_ne HO_9.out BK371.out (by decide))); replace BK373 := aS (blk_grown (g := gb373) (o := .cells #[.int .i64 ((rd_T32 l0 x10_1).f0), .int .i64 ((rd_T32 l0 x10_1).f1.f0), .int .i64 ((rd_T32 l0 x10_1).f1.f1), .int .u8 ((rd_T32 l0 x10_1).f2), .int .u8 ((rd_T32 l0 x10_1).f3.f0), .int .u8 ((rd_T32 l0 x10_1).f3.f1), .int .u8 ((rd_T32 l0 x10_1).f3.f2)] 32 (0, 0)) (kp BK373) hg (Kd.R_away HO_9.out (fun _ hk => hk.2))); replace HB := aS (hb); have HO386 := aS (ho); clear HO_9; clear ho hb hg hat))
      go_roundg k1
      case measure => have := HK1.out; omega
      case rel => exact ⟨(y384), (wrap64 (x10_1 + 1)), fS, H', ⟨by have := HK1.out; omega⟩, ⟨by (with_reducible repeat (first | apply rA | apply rN | apply rD)); exact Kd.R_mono HO386.out (fun _ hk => trivial)⟩, ⟨kb BK371⟩, ⟨bS⟩⟩
    ·rw [if_neg c8] at H
     have c8b0 : decide (a1 ≤ x10_1) = false := decide_eq_false c8
     clear c8
     obtain ⟨c24, H⟩ := ifS H
     have LMc24 := aS c24
     clear c24
     obtain ⟨y387, hy387⟩ : ∃ y_ : List (S32), y_ = (x9_1 ++ [(⟨(rd_T32 l0 x10_1).f0, (⟨(rd_T32 l0 x10_1).f1.f0, (rd_T32 l0 x10_1).f1.f1⟩ : S29), (rd_T32 l0 x10_1).f2, (⟨(rd_T32 l0 x10_1).f3.f0, (rd_T32 l0 x10_1).f3.f1, (rd_T32 l0 x10_1).f3.f2⟩ : S30)⟩ : S32)]) := ⟨_, rfl⟩
     replace H : (prolepsisref06_Erase.l0 k1 l0 a1 a2 y387 (wrap64 (x10_1 + 1)) a3_0 a3_1 a3_2) = some r := rq hy387 H
     have Ny387 := aS hy387
     clear hy387
     have H' := aS H
     clear H
     have p372 : 0 ≤ (x10_1 : Int) := dA
     have q372 : x10_1 < (l0.length : Int) := dA
     obtain ⟨ad372, e372, hx372_0, hx372_1, hx372_2, hx372_3, hx372_4, hx372_5, hx372_6⟩ := at_T32 HR0.out x10_1 p372 q372
     cases e372
     replace hx372_0 := xc HB hx372_0
     replace hx372_1 := xc HB hx372_1
     replace hx372_2 := xc HB hx372_2
     replace hx372_3 := xc HB hx372_3
     replace hx372_4 := xc HB hx372_4
     replace hx372_5 := xc HB hx372_5
     replace hx372_6 := xc HB hx372_6
     replace p372 := eq_true p372
     replace q372 := eq_true q372
     go_wp2_with (first | (refine bx 11 #[.int .i64 0, .int .i64 0, .int .i64 0, .int .u8 0, .int .u8 0, .int .u8 0, .int .u8 0] 32 ?_; intro gb373 hg w25 hbox hb; replace HO_9 := aS (Kd.R_below (Kd.R_elderB (rr HO_9) gb373 (Nat.le_of_eq hg.symm)) hb); have BK373 := aS (hbox); have GW373 := aS (gw HB hg); have GE373 := aS (gw HB hg); replace HB := aS (below_step bS hb); have NB371_373 := aS ((by rw [hg]; exact Nat.ne_of_lt (blk_lt (kb BK371)) : gb371 ≠ gb373)); have NB373_371 := aS ((by rw [hg]; exact Nat.ne_of_gt (blk_lt (kb BK371)) : gb373 ≠ gb371)); replace BK371 := aS (blk_below (kb BK371) hb); clear hb hbox hg; have hnb26 := NB373_371.out; have hnc26 := NB371_373.out; have hz27 := cel7 BK373.out) | ((with_reducible refine gate_builtin (b := .append) (xs := #[.tmp 32, .tmp 34]) rfl ?_); at_builtin; refine Kd.R_append k32 (w0 := w) w.heap.size rfl (.tmp 32) (.tmp 34) 67 32 (.agg #[(.int .i64 0), (.int .i64 0), (.int .i64 0), (.int .u8 0), (.int .u8 0), (.int .u8 0), (.int .u8 0)]) 32 rfl Try.underlying67 info32 rfl (by decide) (by omega) u9 x9_1 (⟨(rd_T32 l0 x10_1).f0, (⟨(rd_T32 l0 x10_1).f1.f0, (rd_T32 l0 x10_1).f1.f1⟩ : S29), (rd_T32 l0 x10_1).f2, (⟨(rd_T32 l0 x10_1).f3.f0, (rd_T32 l0 x10_1).f3.f1, (rd_T32 l0 x10_1).f3.f2⟩ : S30)⟩ : S32) [.int .i64 ((rd_T32 l0 x10_1).f0), .int .i64 ((rd_T32 l0 x10_1).f1.f0), .int .i64 ((rd_T32 l0 x10_1).f1.f1), .int .u8 ((rd_T32 l0 x10_1).f2), .int .u8 ((rd_T32 l0 x10_1).f3.f0), .int .u8 ((rd_T32 l0 x10_1).f3.f1), .int .u8 ((rd_T32 l0 x10_1).f3.f2)] (fun k_ => k_ ≠ gb373) (fun _ => False) rfl (by first | (go_simp; done) | (go_simp; rfl)) ?aP (fun _ hk => hk.elim) ?aF ?aO ?aB ?aS ?aL ?_; (case aP => exact k32_mkM _ _ _ (⟨(rd_T32 l0 x10_1).f0, (⟨(rd_T32 l0 x10_1).f1.f0, (rd_T32 l0 x10_1).f1.f1⟩ : S29), (rd_T32 l0 x10_1).f2, (⟨(rd_T32 l0 x10_1).f3.f0, (rd_T32 l0 x10_1).f3.f1, (rd_T32 l0 x10_1).f3.f2⟩ : S30)⟩ : S32)); (case aB => exact bS); (case aF => exact (fun k_ hk => Kd.freshB (g := gb373) (o := .cells #[.int .i64 ((rd_T32 l0 x10_1).f0), .int .i64 ((rd_T32 l0 x10_1).f1.f0), .int .i64 ((rd_T32 l0 x10_1).f1.f1), .int .u8 ((rd_T32 l0 x10_1).f2), .int .u8 ((rd_T32 l0 x10_1).f3.f0), .int .u8 ((rd_T32 l0 x10_1).f3.f1), .int .u8 ((rd_T32 l0 x10_1).f3.f2)] 32 (0, 0)) (kp BK373) k_ hk)); (case aO => exact (by (with_reducible repeat (first | apply rA | apply rN | apply rD)); exact Kd.R_mono (rK (Kd.R_mono HO_9.out (fun k_ hk => (⟨hk, hk.2⟩ : _ ∧ k_ ≠ gb373)))) (fun _ hk => hk.1.2))); (case aS => exact (below_size bS)); (case aL => have := LMc24.out; omega); intro v388 w28 ho hb hg hat; rw [← Ny387.out] at ho; replace BK371 := aS (blk_grown (g := gb371) (o := .cells #[.int .u8 a3_0, .int .u8 a3_1, .int .u8 a3_2] 30 (0, 0)) (kp BK371) hg (Kd.R_ne HO_9.out BK371.out (by decide))); replace BK373 := aS (blk_grown (g := gb373) (o := .cells #[.int .i64 ((rd_T32 l0 x10_1).f0), .int .i64 ((rd_T32 l0 x10_1).f1.f0), .int .i64 ((rd_T32 l0 x10_1).f1.f1), .int .u8 ((rd_T32 l0 x10_1).f2), .int .u8 ((rd_T32 l0 x10_1).f3.f0), .int .u8 ((rd_T32 l0 x10_1).f3.f1), .int .u8 ((rd_T32 l0 x10_1).f3.f2)] 32 (0, 0)) (kp BK373) hg (Kd.R_away HO_9.out (fun _ hk => hk.2))); replace HB := aS (hb); have HO389 := aS (ho); clear HO_9; clear ho hb hg hat))
     go_roundg k1
     case measure => have := HK1.out; omega
     case rel => exact ⟨(y387), (wrap64 (x10_1 + 1)), fS, H', ⟨by have := HK1.out; omega⟩, ⟨by (with_reducible repeat (first | apply rA | apply rN | apply rD)); exact Kd.R_mono HO389.out (fun _ hk => trivial)⟩, ⟨kb BK371⟩, ⟨bS⟩⟩
   ·rw [if_neg c6] at H
    have c6b0 : decide (x10_1 < (l0.length : Int)) = false := decide_eq_false c6
    clear c6
    replace H := Option.bind_eq_some_iff.mp H
    obtain ⟨t390, A290, H⟩ := H
    try dsimp only at H
    have A29 := aS A290
    clear A290
    obtain rfl := Option.some.inj H
    obtain ⟨Ao30, co30, eo30⟩ := Kd.R_slice HO_9.out
    subst eo30
    go_wp2_with (first | (refine gL 50 37 Try.func50 #[.slice Ao30 x9_1.length co30] ?_; (with_reducible refine (prolepsisref06_Mend.calls k1 _ _ x9_1 t390 _ ?side1 ?side2 A29.out).mono ?_); (case side1 => exact rC (Kd.R_reads' HO_9.out)); (case side2 => exact (Kd.R_reads' HO_9.out).2.1); rintro e w31 ⟨v391, rfl, ho0, hb⟩; refine ⟨_, rfl, ?_⟩; have HO392 := aS (Kd.R_lower (Kd.R_new' ho0 (Kd.R_lt (rr HO_9))) (below_size bS)); replace HO_9 := aS (Kd.R_elder' (rr HO_9) (Kd.R_base ho0) hb); replace BK371 := aS (blk_below (kb BK371) hb); replace HB := aS (below_step bS hb); (try clear hb); (try clear hb2); (try clear hk); (try clear hi); (try clear ho0)))
    go_ret
    exact ⟨_, by first | rfl | (simp <;> rfl) | (simp [*] <;> rfl), by (with_reducible repeat (first | apply rA | apply rN | apply rD)); exact Kd.R_mono HO392.out (fun _ hk => trivial), bS⟩
mutual
def prolepsisref06_Right.l0 : Nat → List (S32) → Int → Option (Bool)
 | 0, _, _ => none
 | k + 1, x0, x3 => if x3 < (x0.length : Int) then (if 0 ≤ x3 then ((prolepsisref05_Right.f k ((rd_T32 x0 x3).f0) ((rd_T32 x0 x3).f1.f0) ((rd_T32 x0 x3).f1.f1) ((rd_T32 x0 x3).f2) ((rd_T32 x0 x3).f3.f0) ((rd_T32 x0 x3).f3.f1) ((rd_T32 x0 x3).f3.f2)).bind fun t394 => (if t394 = true then ((prolepsisref06_alone.f x0 x3).bind fun t395 => (prolepsisref06_Right.j1 k x0 x3 t395)) else (prolepsisref06_Right.j1 k x0 x3 true))) else (none)) else (some true)
def prolepsisref06_Right.j1 : Nat → List (S32) → Int → Bool → Option (Bool)
 | 0, _, _, _ => none
 | k + 1, x0, x3, x20 => if x20 = true then (some false) else (if 0 ≤ x3 then (if x3 < (x0.length : Int) then (if ((rd_T32 x0 x3).f2) = 0 then (if 0 ≤ (wrap64 (x3 - 1)) then (if (wrap64 (x3 - 1)) < (x0.length : Int) then (if (!(((rd_T32 x0 x3).f3.f0) == ((rd_T32 x0 (wrap64 (x3 - 1))).f3.f0)) || (!(((rd_T32 x0 x3).f3.f1) == ((rd_T32 x0 (wrap64 (x3 - 1))).f3.f1)) || (!(((rd_T32 x0 x3).f3.f2) == ((rd_T32 x0 (wrap64 (x3 - 1))).f3.f2))))) = true then (some false) else (prolepsisref06_Right.l0 k x0 (wrap64 (x3 + 1)))) else (none)) else (none)) else (prolepsisref06_Right.l0 k x0 (wrap64 (x3 + 1)))) else (none)) else (none))
end
def prolepsisref06_Right.f (k : Nat) (l0 : List (S32)) : Option (Bool) := prolepsisref06_Right.l0 k l0 0
set_option maxHeartbeats 8000000 in
set_option maxRecDepth 100000 in
theorem prolepsisref06_Right.calls (k : Nat) (A0 : Option Addr) (c0 : Nat) (l0 : List (S32)) (r : Bool) (w : World) (hr0 : Kd.C k32 w A0 l0.length l0) (hc0 : l0.length ≤ c0) (h : prolepsisref06_Right.f k l0 = some r) :
 Calls Try.prog 53 #[.slice A0 l0.length c0] w fun e w' => e = .returned (.bool r) ∧ Below w.heap.size w w' := by
 have hu32 := Try.underlying32
 have hu30 := Try.underlying30
 have HR0 := aS hr0
 have HC0 := aS hc0
 clear hr0 hc0
 have HB := aS (Below.refl w.heap.size w)
 have H : (prolepsisref06_Right.l0 k l0 0) = some r := h
 clear h
 have H' := aS H
 clear H
 go_enter Try.func53, Try.ntmps53
 go_wp2
 repeat (go_quiet (fail); try go_wp2)
 go_loopg [3] k (fun kq v3 w' => ∃ (x3_1 : Int), v3 = .int .i64 x3_1 ∧ Aside0 (prolepsisref06_Right.l0 kq l0 x3_1 = some r) ∧ Aside0 (kq ≤ k) ∧ Aside0 (Below w.heap.size w w'))
 case atStart => exact ⟨(0), fS, H', ⟨Nat.le_refl _⟩, ⟨bB⟩⟩
 case round =>
  clear H'
  obtain ⟨x3_1, rfl, HA, HK1, HB⟩ := hrel
  cases gk with
  | zero => exact absurd HA.out (by simp [prolepsisref06_Right.l0])
  | succ k1 =>
   have H := HA.out
   clear HA
   simp only [prolepsisref06_Right.l0] at H
   by_cases c2 : x3_1 < (l0.length : Int)
   ·rw [if_pos c2] at H
    have c2b0 : decide (x3_1 < (l0.length : Int)) = true := decide_eq_true c2
    clear c2
    have HC3 := aS H
    clear H
    go_upto_region 4 with (fail)
    repeat (go_quiet (fail); go_upto_region 4 with (fail))
    go_cut [20] (fun v20 wc => ∃ (kq : Nat) (x20_2 : Bool), v20 = .bool x20_2 ∧ Aside0 (prolepsisref06_Right.j1 kq l0 x3_1 x20_2 = some r) ∧ Aside0 (kq ≤ k1) ∧ Aside0 (Below w.heap.size w wc))
    case first =>
     have H := HC3.out
     clear HC3
     obtain ⟨c4, H⟩ := ifS H
     have c4b0 : decide (0 ≤ x3_1) = true := decide_eq_true c4
     clear c4
     (first | rw [c4b0] | (simp only [i64_w, i32_w]; rw [c4b0]) | skip)
     replace H := Option.bind_eq_some_iff.mp H
     obtain ⟨t394, A50, H⟩ := H
     try dsimp only at H
     have A5 := aS A50
     clear A50
     by_cases c6 : t394 = true
     ·subst c6
      have H1 : ((prolepsisref06_alone.f l0 x3_1).bind fun t395 => (prolepsisref06_Right.j1 k1 l0 x3_1 t395)) = some r := by rw [if_pos rfl] at H; exact H
      clear H
      have H := H1
      clear H1
      replace H := Option.bind_eq_some_iff.mp H
      obtain ⟨t395, A70, H⟩ := H
      try dsimp only at H
      have A7 := aS A70
      clear A70
      have H' := aS H
      clear H
      have p393 : 0 ≤ (x3_1 : Int) := dA
      have q393 : x3_1 < (l0.length : Int) := dA
      obtain ⟨ad393, e393, hx393_0, hx393_1, hx393_2, hx393_3, hx393_4, hx393_5, hx393_6⟩ := at_T32 HR0.out x3_1 p393 q393
      cases e393
      replace hx393_0 := xc HB hx393_0
      replace hx393_1 := xc HB hx393_1
      replace hx393_2 := xc HB hx393_2
      replace hx393_3 := xc HB hx393_3
      replace hx393_4 := xc HB hx393_4
      replace hx393_5 := xc HB hx393_5
      replace hx393_6 := xc HB hx393_6
      replace p393 := eq_true p393
      replace q393 := eq_true q393
      go_wp2_with (first | (go_at_call 27; (with_reducible refine (prolepsisref05_Right.calls k1 ((rd_T32 l0 x3_1).f0) ((rd_T32 l0 x3_1).f1.f0) ((rd_T32 l0 x3_1).f1.f1) ((rd_T32 l0 x3_1).f2) ((rd_T32 l0 x3_1).f3.f0) ((rd_T32 l0 x3_1).f3.f1) ((rd_T32 l0 x3_1).f3.f2) true _ A5.out).mono ?_); rintro e w8 ⟨rfl, hb⟩; replace HB := aS (below_step bB hb); (try clear hb); (try clear hb2); (try clear hk); (try clear hi)) | (go_at_call 101; (with_reducible refine (prolepsisref06_alone.calls _ _ l0 x3_1 t395 _ ?side1 ?side2 A7.out).mono ?_); (case side1 => repeat (first | exact (Kd.C_below HR0.out HB.out) | (with_reducible refine Kd.C_alloc ?_ _) | (with_reducible refine Kd.C_drewN ?_ _) | (with_reducible refine Kd.C_drew ?_))); (case side2 => exact HC0.out); rintro e w' ⟨rfl, ⟨nd, rfl⟩⟩; (try first | exact ⟨rfl, _, World.drewN_drewN _ _ _⟩ | exact ⟨rfl, _, Eq.trans (World.drewN_drewN _ _ _) (congrArg (World.drewN _) (Nat.add_assoc _ _ _))⟩)))
      repeat (go_quiet (first | (go_at_call 27; (with_reducible refine (prolepsisref05_Right.calls k1 ((rd_T32 l0 x3_1).f0) ((rd_T32 l0 x3_1).f1.f0) ((rd_T32 l0 x3_1).f1.f1) ((rd_T32 l0 x3_1).f2) ((rd_T32 l0 x3_1).f3.f0) ((rd_T32 l0 x3_1).f3.f1) ((rd_T32 l0 x3_1).f3.f2) true _ A5.out).mono ?_); rintro e w8 ⟨rfl, hb⟩; replace HB := aS (below_step bB hb); (try clear hb); (try clear hb2); (try clear hk); (try clear hi)) | (go_at_call 101; (with_reducible refine (prolepsisref06_alone.calls _ _ l0 x3_1 t395 _ ?side1 ?side2 A7.out).mono ?_); (case side1 => repeat (first | exact (Kd.C_below HR0.out HB.out) | (with_reducible refine Kd.C_alloc ?_ _) | (with_reducible refine Kd.C_drewN ?_ _) | (with_reducible refine Kd.C_drew ?_))); (case side2 => exact HC0.out); rintro e w' ⟨rfl, ⟨nd, rfl⟩⟩; (try first | exact ⟨rfl, _, World.drewN_drewN _ _ _⟩ | exact ⟨rfl, _, Eq.trans (World.drewN_drewN _ _ _) (congrArg (World.drewN _) (Nat.add_assoc _ _ _))⟩))); try go_wp2_with (first | (go_at_call 27; (with_reducible refine (prolepsisref05_Right.calls k1 ((rd_T32 l0 x3_1).f0) ((rd_T32 l0 x3_1).f1.f0) ((rd_T32 l0 x3_1).f1.f1) ((rd_T32 l0 x3_1).f2) ((rd_T32 l0 x3_1).f3.f0) ((rd_T32 l0 x3_1).f3.f1) ((rd_T32 l0 x3_1).f3.f2) true _ A5.out).mono ?_); rintro e w8 ⟨rfl, hb⟩; replace HB := aS (below_step bB hb); (try clear hb); (try clear hb2); (try clear hk); (try clear hi)) | (go_at_call 101; (with_reducible refine (prolepsisref06_alone.calls _ _ l0 x3_1 t395 _ ?side1 ?side2 A7.out).mono ?_); (case side1 => repeat (first | exact (Kd.C_below HR0.out HB.out) | (with_reducible refine Kd.C_alloc ?_ _) | (with_reducible refine Kd.C_drewN ?_ _) | (with_reducible refine Kd.C_drew ?_))); (case side2 => exact HC0.out); rintro e w' ⟨rfl, ⟨nd, rfl⟩⟩; (try first | exact ⟨rfl, _, World.drewN_drewN _ _ _⟩ | exact ⟨rfl, _, Eq.trans (World.drewN_drewN _ _ _) (congrArg (World.drewN _) (Nat.add_assoc _ _ _))⟩))))
      go_meet
      case rel => exact ⟨_, (t395), fS, H', ⟨by have := HK1.out; first | omega | exact Nat.le_refl _⟩, ⟨bB⟩⟩
     ·replace c6 := Bool.eq_false_iff.mpr c6
      subst c6
      have H1 : (prolepsisref06_Right.j1 k1 l0 x3_1 true) = some r := by rw [if_neg (show ¬ (false = true) by decide)] at H; exact H
      clear H
      have H := H1
      clear H1
      have H' := aS H
      clear H
      have p393 : 0 ≤ (x3_1 : Int) := dA
      have q393 : x3_1 < (l0.length : Int) := dA
      obtain ⟨ad393, e393, hx393_0, hx393_1, hx393_2, hx393_3, hx393_4, hx393_5, hx393_6⟩ := at_T32 HR0.out x3_1 p393 q393
      cases e393
      replace hx393_0 := xc HB hx393_0
      replace hx393_1 := xc HB hx393_1
      replace hx393_2 := xc HB hx393_2
      replace hx393_3 := xc HB hx393_3
      replace hx393_4 := xc HB hx393_4
      replace hx393_5 := xc HB hx393_5
      replace hx393_6 := xc HB hx393_6
      replace p393 := eq_true p393
      replace q393 := eq_true q393
      go_wp2_with (first | (go_at_call 27; (with_reducible refine (prolepsisref05_Right.calls k1 ((rd_T32 l0 x3_1).f0) ((rd_T32 l0 x3_1).f1.f0) ((rd_T32 l0 x3_1).f1.f1) ((rd_T32 l0 x3_1).f2) ((rd_T32 l0 x3_1).f3.f0) ((rd_T32 l0 x3_1).f3.f1) ((rd_T32 l0 x3_1).f3.f2) false _ A5.out).mono ?_); rintro e w9 ⟨rfl, hb⟩; replace HB := aS (below_step bB hb); (try clear hb); (try clear hb2); (try clear hk); (try clear hi)))
      repeat (go_quiet (first | (go_at_call 27; (with_reducible refine (prolepsisref05_Right.calls k1 ((rd_T32 l0 x3_1).f0) ((rd_T32 l0 x3_1).f1.f0) ((rd_T32 l0 x3_1).f1.f1) ((rd_T32 l0 x3_1).f2) ((rd_T32 l0 x3_1).f3.f0) ((rd_T32 l0 x3_1).f3.f1) ((rd_T32 l0 x3_1).f3.f2) false _ A5.out).mono ?_); rintro e w9 ⟨rfl, hb⟩; replace HB := aS (below_step bB hb); (try clear hb); (try clear hb2); (try clear hk); (try clear hi))); try go_wp2_with (first | (go_at_call 27; (with_reducible refine (prolepsisref05_Right.calls k1 ((rd_T32 l0 x3_1).f0) ((rd_T32 l0 x3_1).f1.f0) ((rd_T32 l0 x3_1).f1.f1) ((rd_T32 l0 x3_1).f2) ((rd_T32 l0 x3_1).f3.f0) ((rd_T32 l0 x3_1).f3.f1) ((rd_T32 l0 x3_1).f3.f2) false _ A5.out).mono ?_); rintro e w9 ⟨rfl, hb⟩; replace HB := aS (below_step bB hb); (try clear hb); (try clear hb2); (try clear hk); (try clear hi))))
      go_meet
      case rel => exact ⟨_, (true), fS, H', ⟨by have := HK1.out; first | omega | exact Nat.le_refl _⟩, ⟨bB⟩⟩
    case rest =>
     clear HC3
     try clear c2
     try clear c2b0
     try clear p2
     try clear p3
     try clear q3
     try clear hx3
     try clear c4
     try clear c4b0
     try clear c5
     try clear c6
     try clear hx393_0
     try clear hx393_1
     try clear hx393_2
     try clear hx393_3
     try clear hx393_4
     try clear hx393_5
     try clear hx393_6
     try clear p393
     try clear q393
     obtain ⟨kq, x20_2, rfl, HA, HJ2, HB⟩ := hcut
     cases kq with
     | zero => exact absurd HA.out (by simp [prolepsisref06_Right.j1])
     | succ kj2 =>
      have H := HA.out
      clear HA
      simp only [prolepsisref06_Right.j1] at H
      by_cases c10 : x20_2 = true
      ·subst c10
       have H1 : (some false) = some r := by rw [if_pos rfl] at H; exact H
       clear H
       have H := H1
       clear H1
       obtain rfl := Option.some.inj H
       go_wp2
       repeat (go_quiet (fail); try go_wp2)
       go_ret
       exact ⟨by first | rfl | (simp <;> rfl) | (simp [*] <;> rfl), bB⟩
      ·replace c10 := Bool.eq_false_iff.mpr c10
       subst c10
       have H1 : (if 0 ≤ x3_1 then (if x3_1 < (l0.length : Int) then (if ((rd_T32 l0 x3_1).f2) = 0 then (if 0 ≤ (wrap64 (x3_1 - 1)) then (if (wrap64 (x3_1 - 1)) < (l0.length : Int) then (if (!(((rd_T32 l0 x3_1).f3.f0) == ((rd_T32 l0 (wrap64 (x3_1 - 1))).f3.f0)) || (!(((rd_T32 l0 x3_1).f3.f1) == ((rd_T32 l0 (wrap64 (x3_1 - 1))).f3.f1)) || (!(((rd_T32 l0 x3_1).f3.f2) == ((rd_T32 l0 (wrap64 (x3_1 - 1))).f3.f2))))) = true then (some false) else (prolepsisref06_Right.l0 kj2 l0 (wrap64 (x3_1 + 1)))) else (none)) else (none)) else (prolepsisref06_Right.l0 kj2 l0 (wrap64 (x3_1 + 1)))) else (none)) else (none)) = some r := by rw [if_neg (show ¬ (false = true) by decide)] at H; exact H
       clear H
       have H := H1
       clear H1
       obtain ⟨c11, H⟩ := ifS H
       have c11b0 : decide (0 ≤ x3_1) = true := decide_eq_true c11
       clear c11
       obtain ⟨c12, H⟩ := ifS H
       have c12b0 : decide (x3_1 < (l0.length : Int)) = true := decide_eq_true c12
       clear c12
       by_cases c13 : ((rd_T32 l0 x3_1).f2) = 0
       ·rw [if_pos c13] at H
        have c13b0 : (((rd_T32 l0 x3_1).f2) == 0) = true := beq_iff_eq.mpr c13
        have c13b1 : (((rd_T32 l0 x3_1).f2) != 0) = false := bne_eq_false_iff_eq.mpr c13
        clear c13
        obtain ⟨ji14, hji14⟩ : ∃ j_ : Int, (wrap64 (x3_1 - 1)) = j_ := ⟨_, rfl⟩
        replace H : (if 0 ≤ (ji14) then (if (ji14) < (l0.length : Int) then (if (!(((rd_T32 l0 x3_1).f3.f0) == ((rd_T32 l0 (ji14)).f3.f0)) || (!(((rd_T32 l0 x3_1).f3.f1) == ((rd_T32 l0 (ji14)).f3.f1)) || (!(((rd_T32 l0 x3_1).f3.f2) == ((rd_T32 l0 (ji14)).f3.f2))))) = true then (some false) else (prolepsisref06_Right.l0 kj2 l0 (wrap64 (x3_1 + 1)))) else (none)) else (none)) = some r := by first | (rw [hji14] at H; exact H) | (simp only [hji14] at H ⊢; exact H)
        have hji14w : (IntKind.i64.wrap (x3_1 - 1)) = ji14 := (i64_w _).trans hji14
        obtain ⟨c15, H⟩ := ifS H
        have c15b0 : decide (0 ≤ (ji14)) = true := decide_eq_true c15
        clear c15
        obtain ⟨c16, H⟩ := ifS H
        have c16b0 : decide ((ji14) < (l0.length : Int)) = true := decide_eq_true c16
        clear c16
        by_cases c17 : (!(((rd_T32 l0 x3_1).f3.f0) == ((rd_T32 l0 (ji14)).f3.f0)) || (!(((rd_T32 l0 x3_1).f3.f1) == ((rd_T32 l0 (ji14)).f3.f1)) || (!(((rd_T32 l0 x3_1).f3.f2) == ((rd_T32 l0 (ji14)).f3.f2))))) = true
        ·rw [if_pos c17] at H
         have c17b0 : (!(((rd_T32 l0 x3_1).f3.f0) == ((rd_T32 l0 (ji14)).f3.f0)) || (!(((rd_T32 l0 x3_1).f3.f1) == ((rd_T32 l0 (ji14)).f3.f1)) || (!(((rd_T32 l0 x3_1).f3.f2) == ((rd_T32 l0 (ji14)).f3.f2))))) = true := c17
         clear c17
         obtain rfl := Option.some.inj H
         have p396 : 0 ≤ (x3_1 : Int) := dA
         have q396 : x3_1 < (l0.length : Int) := dA
         obtain ⟨ad396, e396, hx396_0, hx396_1, hx396_2, hx396_3, hx396_4, hx396_5, hx396_6⟩ := at_T32 HR0.out x3_1 p396 q396
         cases e396
         replace hx396_0 := xc HB hx396_0
         replace hx396_1 := xc HB hx396_1
         replace hx396_2 := xc HB hx396_2
         replace hx396_3 := xc HB hx396_3
         replace hx396_4 := xc HB hx396_4
         replace hx396_5 := xc HB hx396_5
         replace hx396_6 := xc HB hx396_6
         replace p396 := eq_true p396
         replace q396 := eq_true q396
         have p397 : 0 ≤ (x3_1 : Int) := dA
         have q397 : x3_1 < (l0.length : Int) := dA
         obtain ⟨ad397, e397, hx397_0, hx397_1, hx397_2, hx397_3, hx397_4, hx397_5, hx397_6⟩ := at_T32 HR0.out x3_1 p397 q397
         obtain rfl : ad396 = ad397 := (by injection e397)
         replace hx397_0 := xc HB hx397_0
         replace hx397_1 := xc HB hx397_1
         replace hx397_2 := xc HB hx397_2
         replace hx397_3 := xc HB hx397_3
         replace hx397_4 := xc HB hx397_4
         replace hx397_5 := xc HB hx397_5
         replace hx397_6 := xc HB hx397_6
         replace p397 := eq_true p397
         replace q397 := eq_true q397
         have p398 : 0 ≤ ((ji14) : Int) := dA
         have q398 : (ji14) < (l0.length : Int) := dA
         obtain ⟨ad398, e398, hx398_0, hx398_1, hx398_2, hx398_3, hx398_4, hx398_5, hx398_6⟩ := at_T32 HR0.out (ji14) p398 q398
         obtain rfl : ad396 = ad398 := (by injection e398)
         replace hx398_0 := xc HB hx398_0
         replace hx398_1 := xc HB hx398_1
         replace hx398_2 := xc HB hx398_2
         replace hx398_3 := xc HB hx398_3
         replace hx398_4 := xc HB hx398_4
         replace hx398_5 := xc HB hx398_5
         replace hx398_6 := xc HB hx398_6
         replace p398 := eq_true p398
         replace q398 := eq_true q398
         go_wp2
         repeat (go_quiet (fail); try go_wp2)
         go_ret
         exact ⟨by first | rfl | (simp <;> rfl) | (simp only [← hji14]; first | rfl | (simp <;> rfl)) | (simp [*] <;> rfl), bB⟩
        ·rw [if_neg c17] at H
         have c17b0 : (!(((rd_T32 l0 x3_1).f3.f0) == ((rd_T32 l0 (ji14)).f3.f0)) || (!(((rd_T32 l0 x3_1).f3.f1) == ((rd_T32 l0 (ji14)).f3.f1)) || (!(((rd_T32 l0 x3_1).f3.f2) == ((rd_T32 l0 (ji14)).f3.f2))))) = false := by simpa using c17
         clear c17
         have H' := aS H
         clear H
         have p396 : 0 ≤ (x3_1 : Int) := dA
         have q396 : x3_1 < (l0.length : Int) := dA
         obtain ⟨ad396, e396, hx396_0, hx396_1, hx396_2, hx396_3, hx396_4, hx396_5, hx396_6⟩ := at_T32 HR0.out x3_1 p396 q396
         cases e396
         replace hx396_0 := xc HB hx396_0
         replace hx396_1 := xc HB hx396_1
         replace hx396_2 := xc HB hx396_2
         replace hx396_3 := xc HB hx396_3
         replace hx396_4 := xc HB hx396_4
         replace hx396_5 := xc HB hx396_5
         replace hx396_6 := xc HB hx396_6
         replace p396 := eq_true p396
         replace q396 := eq_true q396
         have p397 : 0 ≤ (x3_1 : Int) := dA
         have q397 : x3_1 < (l0.length : Int) := dA
         obtain ⟨ad397, e397, hx397_0, hx397_1, hx397_2, hx397_3, hx397_4, hx397_5, hx397_6⟩ := at_T32 HR0.out x3_1 p397 q397
         obtain rfl : ad396 = ad397 := (by injection e397)
         replace hx397_0 := xc HB hx397_0
         replace hx397_1 := xc HB hx397_1
         replace hx397_2 := xc HB hx397_2
         replace hx397_3 := xc HB hx397_3
         replace hx397_4 := xc HB hx397_4
         replace hx397_5 := xc HB hx397_5
         replace hx397_6 := xc HB hx397_6
         replace p397 := eq_true p397
         replace q397 := eq_true q397
         have p398 : 0 ≤ ((ji14) : Int) := dA
         have q398 : (ji14) < (l0.length : Int) := dA
         obtain ⟨ad398, e398, hx398_0, hx398_1, hx398_2, hx398_3, hx398_4, hx398_5, hx398_6⟩ := at_T32 HR0.out (ji14) p398 q398
         obtain rfl : ad396 = ad398 := (by injection e398)
         replace hx398_0 := xc HB hx398_0
         replace hx398_1 := xc HB hx398_1
         replace hx398_2 := xc HB hx398_2
         replace hx398_3 := xc HB hx398_3
         replace hx398_4 := xc HB hx398_4
         replace hx398_5 := xc HB hx398_5
         replace hx398_6 := xc HB hx398_6
         replace p398 := eq_true p398
         replace q398 := eq_true q398
         go_wp2
         repeat (go_quiet (fail); try go_wp2)
         go_roundg kj2
         case measure => have := HK1.out; have := HJ2.out; omega
         case rel => exact ⟨(wrap64 (x3_1 + 1)), fS, H', ⟨by have := HK1.out; have := HJ2.out; omega⟩, ⟨bB⟩⟩
       ·rw [if_neg c13] at H
        have c13b0 : (((rd_T32 l0 x3_1).f2) == 0) = false := beq_eq_false_iff_ne.mpr c13
        have c13b1 : (((rd_T32 l0 x3_1).f2) != 0) = true := bne_iff_ne.mpr c13
        have H' := aS H
        clear H
        have p396 : 0 ≤ (x3_1 : Int) := dA
        have q396 : x3_1 < (l0.length : Int) := dA
        obtain ⟨ad396, e396, hx396_0, hx396_1, hx396_2, hx396_3, hx396_4, hx396_5, hx396_6⟩ := at_T32 HR0.out x3_1 p396 q396
        cases e396
        replace hx396_0 := xc HB hx396_0
        replace hx396_1 := xc HB hx396_1
        replace hx396_2 := xc HB hx396_2
        replace hx396_3 := xc HB hx396_3
        replace hx396_4 := xc HB hx396_4
        replace hx396_5 := xc HB hx396_5
        replace hx396_6 := xc HB hx396_6
        replace p396 := eq_true p396
        replace q396 := eq_true q396
        go_wp2
        repeat (go_quiet (fail); try go_wp2)
        go_roundg kj2
        case measure => have := HK1.out; have := HJ2.out; omega
        case rel => exact ⟨(wrap64 (x3_1 + 1)), fS, H', ⟨by have := HK1.out; have := HJ2.out; omega⟩, ⟨bB⟩⟩
   ·rw [if_neg c2] at H
    have c2b0 : decide (x3_1 < (l0.length : Int)) = false := decide_eq_false c2
    clear c2
    obtain rfl := Option.some.inj H
    go_wp2
    repeat (go_quiet (fail); try go_wp2)
    go_ret
    exact ⟨by first | rfl | (simp <;> rfl) | (simp [*] <;> rfl), bB⟩
def prolepsisref07_Cols.f (l0_0 : List (List (S32))) (a0_1 : Int) (a0_2 : Int) : Option (Int) := if (l0_0.length : Int) = 0 then (some 0) else (if 0 < (l0_0.length : Int) then (some ((rd_L9 l0_0 0).length : Int)) else (none))
set_option maxHeartbeats 8000000 in
set_option maxRecDepth 100000 in
theorem prolepsisref07_Cols.calls (A0_0 : Option Addr) (c0_0 : Nat) (l0_0 : List (List (S32))) (a0_1 : Int) (a0_2 : Int) (r : Int) (w : World) (hr0_0 : Kd.C (Kd.slice 32 k32) w A0_0 l0_0.length l0_0) (hc0_0 : l0_0.length ≤ c0_0) (h : prolepsisref07_Cols.f l0_0 a0_1 a0_2 = some r) :
 Calls Try.prog 121 #[.agg #[.slice A0_0 l0_0.length c0_0, .int .i64 a0_1, .int .i64 a0_2]] w fun e w' => e = .returned (.int .i64 r) ∧ Below w.heap.size w w' := by
 have hu108 := Try.underlying108
 have HR0_0 := aS hr0_0
 have HC0_0 := aS hc0_0
 clear hr0_0 hc0_0
 have HB := aS (Below.refl w.heap.size w)
 have H : (if (l0_0.length : Int) = 0 then (some 0) else (if 0 < (l0_0.length : Int) then (some ((rd_L9 l0_0 0).length : Int)) else (none))) = some r := h
 clear h
 by_cases c2 : (l0_0.length : Int) = 0
 ·rw [if_pos c2] at H
  have c2b0 : ((l0_0.length : Int) == 0) = true := beq_iff_eq.mpr c2
  have c2b1 : ((l0_0.length : Int) != 0) = false := bne_eq_false_iff_eq.mpr c2
  clear c2
  obtain rfl := Option.some.inj H
  go_enter Try.func121, Try.ntmps121
  go_wp2_with (first | (refine bx 1 #[.slice A0_0 l0_0.length c0_0, .int .i64 a0_1, .int .i64 a0_2] 108 ?_; intro gb399 hg w3 hbox hb; have BK399 := aS (hbox); have GW399 := aS (gw HB hg); have GE399 := aS (gw HB hg); replace HB := aS (below_step bB hb); clear hb hbox hg; have hz4 := cel3 BK399.out))
  go_ret
  exact ⟨by first | rfl | (simp <;> rfl) | (simp [*] <;> rfl), bS⟩
 ·rw [if_neg c2] at H
  have c2b0 : ((l0_0.length : Int) == 0) = false := beq_eq_false_iff_ne.mpr c2
  have c2b1 : ((l0_0.length : Int) != 0) = true := bne_iff_ne.mpr c2
  have c2b2 : ¬ (l0_0 = []) := fun h_ => c2 (by rw [h_]; rfl)
  obtain ⟨c5, H⟩ := ifS H
  have c5b0 : decide (0 < (l0_0.length : Int)) = true := decide_eq_true c5
  have c5b1 : decide (0 < l0_0.length) = true := decide_eq_true (by omega)
  clear c5
  obtain rfl := Option.some.inj H
  go_enter Try.func121, Try.ntmps121
  go_wp2_with (first | (refine bx 1 #[.slice A0_0 l0_0.length c0_0, .int .i64 a0_1, .int .i64 a0_2] 108 ?_; intro gb399 hg w6 hbox hb; have BK399 := aS (hbox); have GW399 := aS (gw HB hg); have GE399 := aS (gw HB hg); replace HB := aS (below_step bB hb); clear hb hbox hg; have hz7 := cel3 BK399.out; have p400 : 0 ≤ (0 : Int) := (by omega); have q400 : 0 < (l0_0.length : Int) := dA; obtain ⟨ad400, A400_0, c400_0, e400, hx400_0, hl400_0, hi400_0⟩ := at_L9 HR0_0.out 0 p400 q400; cases e400; have qi400 : (0 < l0_0.length) = True := eq_true (by omega); (try rw [show ((0 : Int)).toNat = 0 from rfl] at hx400_0); (try rw [Addr.add_zero'] at hx400_0); replace hx400_0 := xc HB hx400_0; have HR400_0 := aS hi400_0; have HC400_0 := aS hl400_0; clear hi400_0 hl400_0; replace p400 := eq_true p400; replace q400 := eq_true q400))
  go_ret
  exact ⟨by first | rfl | (simp <;> rfl) | (simp [*] <;> rfl), bS⟩
def prolepsisref07_bring.f (a0 : Int) (a1 : Int) : Option (Int) := if a0 ≥ a1 then (if (wrap64 (a1 - 1)) < 0 then (some 0) else (some (wrap64 (a1 - 1)))) else (if a0 < 0 then (some 0) else (some a0))
set_option maxHeartbeats 8000000 in
set_option maxRecDepth 100000 in
theorem prolepsisref07_bring.calls (a0 : Int) (a1 : Int) (r : Int) (w : World) (h : prolepsisref07_bring.f a0 a1 = some r) :
 Calls Try.prog 133 #[.int .i64 a0, .int .i64 a1] w fun e w' => e = .returned (.int .i64 r) ∧ Drawn0 w w' := by
 have H : (if a0 ≥ a1 then (if (wrap64 (a1 - 1)) < 0 then (some 0) else (some (wrap64 (a1 - 1)))) else (if a0 < 0 then (some 0) else (some a0))) = some r := h
 clear h
 by_cases c3 : a0 ≥ a1
 ·rw [if_pos c3] at H
  have c3b0 : decide (a1 ≤ a0) = true := decide_eq_true c3
  clear c3
  by_cases c4 : (wrap64 (a1 - 1)) < 0
  ·rw [if_pos c4] at H
   have c4b0 : decide ((wrap64 (a1 - 1)) < 0) = true := decide_eq_true c4
   clear c4
   obtain rfl := Option.some.inj H
   go_enter Try.func133, Try.ntmps133
   go_wp2
   go_ret
   exact ⟨by first | rfl | (simp; done) | (simp [*]; done), by repeat (first | exact Drawn0.refl _ | apply Drawn0.step)⟩
  ·rw [if_neg c4] at H
   have c4b0 : decide ((wrap64 (a1 - 1)) < 0) = false := decide_eq_false c4
   clear c4
   obtain rfl := Option.some.inj H
   go_enter Try.func133, Try.ntmps133
   go_wp2
   go_ret
   exact ⟨by first | rfl | (simp; done) | (simp [*]; done), by repeat (first | exact Drawn0.refl _ | apply Drawn0.step)⟩
 ·rw [if_neg c3] at H
  have c3b0 : decide (a1 ≤ a0) = false := decide_eq_false c3
  clear c3
  by_cases c5 : a0 < 0
  ·rw [if_pos c5] at H
   have c5b0 : decide (a0 < 0) = true := decide_eq_true c5
   clear c5
   obtain rfl := Option.some.inj H
   go_enter Try.func133, Try.ntmps133
   go_wp2
   go_ret
   exact ⟨by first | rfl | (simp; done) | (simp [*]; done), by repeat (first | exact Drawn0.refl _ | apply Drawn0.step)⟩
  ·rw [if_neg c5] at H
   have c5b0 : decide (a0 < 0) = false := decide_eq_false c5
   clear c5
   obtain rfl := Option.some.inj H
   go_enter Try.func133, Try.ntmps133
   go_wp2
   go_ret
   exact ⟨by first | rfl | (simp; done) | (simp [*]; done), by repeat (first | exact Drawn0.refl _ | apply Drawn0.step)⟩
def prolepsisref07_Move.f (l0_0 : List (List (S32))) (a0_1 : Int) (a0_2 : Int) (a1 : Int) (a2 : Int) : Option (Int × Int) := if (l0_0.length : Int) = 0 then (some (a0_1, a0_2)) else ((prolepsisref07_bring.f a1 (l0_0.length : Int)).bind fun t403 => ((prolepsisref07_Cols.f l0_0 a0_1 a0_2).bind fun t404 => ((prolepsisref07_bring.f a2 t404).bind fun t405 => (some (t403, t405)))))
def prolepsisref07_Move.T3 : Bool × List (List Nat × List Nat) := (true, [([], []), ([], []), ([1], [1]), ([2], [2]), ([0, 3], [0, 3]), ([], []), ([], []), ([6, 4], [6]), ([5, 7, 7], [5, 7]), ([0, 1, 2, 3, 4, 6], []), ([9, 4, 8, 0, 1, 2, 3, 4, 6], [4, 9]), ([0, 1, 2, 3, 4, 5, 6, 7, 8, 9, 10], []), ([11, 8, 10, 0, 1, 2, 3, 4, 5, 6, 7, 8, 9, 10], [8, 11])])
def prolepsisref07_Move.B3 : List Nat := [0, 0, 2, 6, 15, 0, 0, 95, 255, 95, 1023, 2047, 4095]
theorem prolepsisref07_Move.tab3 : rtab .any (opsOf Try.f117 3) = prolepsisref07_Move.T3 := by kernel_rfl
theorem prolepsisref07_Move.bits3 : waitsOk prolepsisref07_Move.T3.2 prolepsisref07_Move.B3 = true := by kernel_rfl
set_option maxHeartbeats 8000000 in
set_option maxRecDepth 100000 in
theorem prolepsisref07_Move.calls (A0_0 : Option Addr) (c0_0 : Nat) (l0_0 : List (List (S32))) (a0_1 : Int) (a0_2 : Int) (a1 : Int) (a2 : Int) (r1 : Int) (r2 : Int) (w : World) (hr0_0 : Kd.C (Kd.slice 32 k32) w A0_0 l0_0.length l0_0) (hc0_0 : l0_0.length ≤ c0_0) (h : prolepsisref07_Move.f l0_0 a0_1 a0_2 a1 a2 = some (r1, r2)) :
 Calls Try.prog 117 #[.agg #[.slice A0_0 l0_0.length c0_0, .int .i64 a0_1, .int .i64 a0_2], .int .i64 a1, .int .i64 a2] w fun e w' => e = .returned (.agg #[.slice A0_0 l0_0.length c0_0, .int .i64 r1, .int .i64 r2]) ∧ Below w.heap.size w w' := by
 have hu108 := Try.underlying108
 have HR0_0 := aS hr0_0
 have HC0_0 := aS hc0_0
 clear hr0_0 hc0_0
 have HB := aS (Below.refl w.heap.size w)
 have H : (if (l0_0.length : Int) = 0 then (some (a0_1, a0_2)) else ((prolepsisref07_bring.f a1 (l0_0.length : Int)).bind fun t403 => ((prolepsisref07_Cols.f l0_0 a0_1 a0_2).bind fun t404 => ((prolepsisref07_bring.f a2 t404).bind fun t405 => (some (t403, t405)))))) = some (r1, r2) := h
 clear h
 by_cases c4 : (l0_0.length : Int) = 0
 ·rw [if_pos c4] at H
  have c4b0 : ((l0_0.length : Int) == 0) = true := beq_iff_eq.mpr c4
  have c4b1 : ((l0_0.length : Int) != 0) = false := bne_eq_false_iff_eq.mpr c4
  clear c4
  simp only [Option.some.injEq, Prod.mk.injEq] at H
  obtain ⟨rfl, rfl⟩ := H
  go_enter Try.func117, Try.ntmps117
  go_wp2_with (first | (refine bx 3 #[.slice A0_0 l0_0.length c0_0, .int .i64 a0_1, .int .i64 a0_2] 108 ?_; intro gb401 hg w5 hbox hb; have BK401 := aS (hbox); have GW401 := aS (gw HB hg); have GE401 := aS (gw HB hg); replace HB := aS (below_step bB hb); clear hb hbox hg) | (refine bx 6 #[.slice none 0 0, .int .i64 0, .int .i64 0] 108 ?_; intro gb402 hg w6 hbox hb; have BK402 := aS (hbox); have GW402 := aS (gw HB hg); have GE402 := aS (gw HB hg); replace HB := aS (below_step bS hb); have NB401_402 := aS ((by rw [hg]; exact Nat.ne_of_lt (blk_lt (kb BK401)) : gb401 ≠ gb402)); have NB402_401 := aS ((by rw [hg]; exact Nat.ne_of_gt (blk_lt (kb BK401)) : gb402 ≠ gb401)); replace BK401 := aS (blk_below (kb BK401) hb); clear hb hbox hg; have hnb7 := NB401_402.out; have hnc7 := NB402_401.out; have hz8 := cel3 BK401.out; have hz9 := cel3 BK402.out))
  refine bodyPost_ret (results_cell_row rfl _ _ gb402 108 #[.slice A0_0 l0_0.length c0_0, .int .i64 a0_1, .int .i64 a0_2] (0, 0) _ rfl (kp BK402) Try.underlying108 rfl (by kernel_rfl)) rfl ?_
  exact ⟨by first | rfl | (simp <;> rfl) | (simp [*] <;> rfl), bS⟩
 ·rw [if_neg c4] at H
  have c4b0 : ((l0_0.length : Int) == 0) = false := beq_eq_false_iff_ne.mpr c4
  have c4b1 : ((l0_0.length : Int) != 0) = true := bne_iff_ne.mpr c4
  have c4b2 : ¬ (l0_0 = []) := fun h_ => c4 (by rw [h_]; rfl)
  replace H := Option.bind_eq_some_iff.mp H
  obtain ⟨t403, A100, H⟩ := H
  try dsimp only at H
  have A10 := aS A100
  clear A100
  replace H := Option.bind_eq_some_iff.mp H
  obtain ⟨t404, A110, H⟩ := H
  try dsimp only at H
  have A11 := aS A110
  clear A110
  replace H := Option.bind_eq_some_iff.mp H
  obtain ⟨t405, A120, H⟩ := H
  try dsimp only at H
  have A12 := aS A120
  clear A120
  simp only [Option.some.injEq, Prod.mk.injEq] at H
  obtain ⟨rfl, rfl⟩ := H
  go_enter Try.func117, Try.ntmps117
  try go_wp2_with (first | (refine bx 3 #[.slice A0_0 l0_0.length c0_0, .int .i64 a0_1, .int .i64 a0_2] 108 ?_; intro gb401 hg w13 hbox hb; have BK401 := aS (hbox); have GW401 := aS (gw HB hg); have GE401 := aS (gw HB hg); replace HB := aS (below_step bB hb); clear hb hbox hg) | (refine bx 6 #[.slice none 0 0, .int .i64 0, .int .i64 0] 108 ?_; intro gb402 hg w14 hbox hb; have BK402 := aS (hbox); have GW402 := aS (gw HB hg); have GE402 := aS (gw HB hg); replace HB := aS (below_step bS hb); have NB401_402 := aS ((by rw [hg]; exact Nat.ne_of_lt (blk_lt (kb BK401)) : gb401 ≠ gb402)); have NB402_401 := aS ((by rw [hg]; exact Nat.ne_of_gt (blk_lt (kb BK401)) : gb402 ≠ gb401)); replace BK401 := aS (blk_below (kb BK401) hb); clear hb hbox hg; have hnb15 := NB401_402.out; have hnc15 := NB402_401.out; have hz16 := cel3 BK401.out))
  replace BK401 := aS (blk_drew BK401.out)
  replace BK402 := aS (blk_drew BK402.out)
  replace HB := aS (below_drew1 HB.out)
  refine start_ (n := 13) (S := fun w' => w'.cell? ⟨gb401, 0, none⟩ = some (.slice A0_0 l0_0.length c0_0) ∧ w'.cell? ⟨gb401, 1, none⟩ = some (.int .i64 a0_1) ∧ w'.cell? ⟨gb401, 2, none⟩ = some (.int .i64 a0_2)) (ds := [10, 12]) (tb 13 0) (by kernel_rfl) rfl rfl (c3 BK401.out) (fun hHeld => ?_); refine with_tabW prolepsisref07_Move.tab3 prolepsisref07_Move.bits3 (fun HT_ HW_ => ?_)
  generalize w14.drew = w17 at BK401 BK402 HB hHeld ⊢
  refine tp 0 (some 12) (tb 13 1) ?_
  refine tp 1 (some 13) (tb 13 3) ?_
  refine tp 5 (some 17) (tb 13 35) ?_
  refine tk 2 (some 14) (tb 13 39) ?_
  refine tp 3 (some 15) (tb 13 47) ?_
  refine tk 6 (some 18) (tb 13 111) ?_
  refine st1 4 (some 16) (tb 13 127) (fun K hK => ?_)
  refine gO Try.func133 #[.int .i64 a1, .int .i64 (l0_0.length : Int)] ?_
  with_reducible refine (prolepsisref07_bring.calls a1 (l0_0.length : Int) t403 _ A10.out).mono ?_
  rintro e w' ⟨rfl, ⟨nd, rfl⟩⟩
  refine ⟨_, rfl, ?_⟩
  refine hK.out _ _ (c3 BK401.out) (fun hHeld => ?_)
  clear hK K
  refine nm ?_
  refine tp 9 (some 21) (tb 13 639) ?_
  refine st1 7 (some 19) (tb 13 767) (fun K hK => ?_)
  refine gO Try.func121 #[.agg #[.slice A0_0 l0_0.length c0_0, .int .i64 a0_1, .int .i64 a0_2]] ?_
  with_reducible refine (prolepsisref07_Cols.calls _ _ l0_0 a0_1 a0_2 t404 _ ?side1 ?side2 A11.out).mono ?_
  (case side1 => repeat (first | exact (Kd.C_below HR0_0.out bS) | (with_reducible refine Kd.C_alloc ?_ _) | (with_reducible refine Kd.C_drewN ?_ _) | (with_reducible refine Kd.C_drew ?_)))
  (case side2 => exact HC0_0.out)
  rintro e w18 ⟨rfl, hb⟩
  refine ⟨_, rfl, ?_⟩
  replace BK401 := aS (blk_below (kb BK401) hb)
  replace BK402 := aS (blk_below (kb BK402) hb)
  replace HB := aS (below_step bS hb)
  (try clear hb)
  (try clear hb2)
  (try clear hk)
  (try clear hi)
  refine hK.out _ _ (c3 BK401.out) (fun hHeld => ?_)
  clear hK K
  refine nm ?_
  refine st1 8 (some 20) (tb 13 1023) (fun K hK => ?_)
  refine gO Try.func133 #[.int .i64 a2, .int .i64 t404] ?_
  with_reducible refine (prolepsisref07_bring.calls a2 t404 t405 _ A12.out).mono ?_
  rintro e w' ⟨rfl, ⟨nd, rfl⟩⟩
  refine ⟨_, rfl, ?_⟩
  refine hK.out _ _ (c3 BK401.out) (fun hHeld => ?_)
  clear hK K
  refine nm ?_
  refine last_ (i := 10) (N := none) (tb 13 2047) rfl rfl (one_of HT_.out (by kernel_rfl)) (by decide) (fun K hK => ?_)
  have hs19 : w18.cell? ⟨gb401, 1, none⟩ = some (.int .i64 a0_1) := (blk_cell BK401.out 1).trans rfl
  have hfs19 := blk_frozen BK401.out 1
  have hns19_1 := NB402_401.out
  have hms19_1 := NB401_402.out
  refine skip_ (w1 := ?_) (by rfl) rfl ?_ ?_
  rotate_left
  ·go_simp
   rfl
  refine hK.out _ _ ?_
  clear hK K
  refine tp 11 (some 22) (tb 13 4095) ?_
  refine last_ (i := 12) (N := none) (tb 13 8191) rfl rfl (one_of HT_.out (by kernel_rfl)) (by decide) (fun K hK => ?_)
  have hs20 : w18.cell? ⟨gb401, 2, none⟩ = some (.int .i64 a0_2) := (blk_cell BK401.out 2).trans rfl
  have hfs20 := blk_frozen BK401.out 2
  have hns20_1 := NB402_401.out
  have hms20_1 := NB401_402.out
  refine skip_ (w1 := ?_) (by rfl) rfl ?_ ?_
  rotate_left
  ·go_simp
   rfl
  refine hK.out _ _ ?_
  clear hK K
  refine done_ (done_of HT_.out (by kernel_rfl)) ?_
  have hz21 := cel3 BK401.out
  have hz22 := cel3 BK402.out
  try go_wp2
  refine bodyPost_ret (results_cell_row rfl _ _ gb402 108 #[.slice A0_0 l0_0.length c0_0, .int .i64 t403, .int .i64 t405] (0, 0) _ rfl (kp BK402) Try.underlying108 rfl (by kernel_rfl)) rfl ?_
  exact ⟨by first | rfl | (simp <;> rfl) | (simp [*] <;> rfl), bS⟩
end Go.Proofs.Ytblcmcdifgclcaa.PGridSame
