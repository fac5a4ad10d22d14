/- GridPlays: what its proof leads to. No condition. -/
import Derived.Test.YtblcmcdifgclcaaGreatG13qGridPlays
import Derived.Test.YtblcmcdifgclcaaGreatG16qGridPlays
import Derived.Test.YtblcmcdifgclcaaGreatG19qGridPlays
import Derived.Test.YtblcmcdifgclcaaGreatG20qGridPlays
import Derived.Test.YtblcmcdifgclcaaGreatG6qGridPlays
namespace Go.Proofs.YtblcmcdifgclcaaGreat.PGridPlays
open Go.RowKit Go.Proofs.YtblcmcdifgclcaaGreatW.PrintWords Go.Proofs.YtblcmcdifgclcaaGreatW.PrintLast Go.Proofs.YtblcmcdifgclcaaGreatW.PrintMore
attribute [local go_sem] isSome_setCell max2_int min2_int max_two min_two
set_option linter.unusedVariables false
set_option linter.unusedSimpArgs false
attribute [local go_sem high] eqA40 eqA52
def prolepsisref07_Move.f (l0_0 : List (List (S52))) (a0_1 : Int) (a0_2 : Int) (a1 : Int) (a2 : Int) : Option (Int × Int) := if (l0_0.length : Int) = 0 then (some (a0_1, a0_2)) else ((prolepsisref07_bring.f a1 (l0_0.length : Int)).bind fun t400 => ((prolepsisref07_Cols.f l0_0 a0_1 a0_2).bind fun t401 => ((prolepsisref07_bring.f a2 t401).bind fun t402 => (some (t400, t402)))))
def prolepsisref07_Move.T3 : Bool × List (List Nat × List Nat) := (true, [([], []), ([], []), ([1], [1]), ([2], [2]), ([0, 3], [0, 3]), ([], []), ([], []), ([6, 4], [6]), ([5, 7, 7], [5, 7]), ([0, 1, 2, 3, 4, 6], []), ([9, 4, 8, 0, 1, 2, 3, 4, 6], [4, 9]), ([0, 1, 2, 3, 4, 5, 6, 7, 8, 9, 10], []), ([11, 8, 10, 0, 1, 2, 3, 4, 5, 6, 7, 8, 9, 10], [8, 11])])
def prolepsisref07_Move.B3 : List Nat := [0, 0, 2, 6, 15, 0, 0, 95, 255, 95, 1023, 2047, 4095]
theorem prolepsisref07_Move.tab3 : rtab .any (opsOf Tryz.f40 3) = prolepsisref07_Move.T3 := by kernel_rfl
theorem prolepsisref07_Move.bits3 : waitsOk prolepsisref07_Move.T3.2 prolepsisref07_Move.B3 = true := by kernel_rfl
set_option maxHeartbeats 8000000 in
set_option maxRecDepth 100000 in
theorem prolepsisref07_Move.calls (A0_0 : Option Addr) (c0_0 : Nat) (l0_0 : List (List (S52))) (a0_1 : Int) (a0_2 : Int) (a1 : Int) (a2 : Int) (r1 : Int) (r2 : Int) (w : World) (hr0_0 : Kd.C (Kd.slice 52 k52) w A0_0 l0_0.length l0_0) (hc0_0 : l0_0.length ≤ c0_0) (h : prolepsisref07_Move.f l0_0 a0_1 a0_2 a1 a2 = some (r1, r2)) :
 Calls Tryz.prog 40 #[.agg #[.slice A0_0 l0_0.length c0_0, .int .i64 a0_1, .int .i64 a0_2], .int .i64 a1, .int .i64 a2] w fun e w' => e = .returned (.agg #[.slice A0_0 l0_0.length c0_0, .int .i64 r1, .int .i64 r2]) ∧ Below w.heap.size w w' := by
 have hu32 := Tryz.underlying32
 have HR0_0 := aS hr0_0
 have HC0_0 := aS hc0_0
 clear hr0_0 hc0_0
 have HB := aS (Below.refl w.heap.size w)
 have H : (if (l0_0.length : Int) = 0 then (some (a0_1, a0_2)) else ((prolepsisref07_bring.f a1 (l0_0.length : Int)).bind fun t400 => ((prolepsisref07_Cols.f l0_0 a0_1 a0_2).bind fun t401 => ((prolepsisref07_bring.f a2 t401).bind fun t402 => (some (t400, t402)))))) = some (r1, r2) := h
 clear h
 by_cases c4 : (l0_0.length : Int) = 0
 ·rw [if_pos c4] at H
  have c4b0 : ((l0_0.length : Int) == 0) = true := beq_iff_eq.mpr c4
  have c4b1 : ((l0_0.length : Int) != 0) = false := bne_eq_false_iff_eq.mpr c4
  clear c4
  simp only [Option.some.injEq, Prod.mk.injEq] at H
  obtain ⟨rfl, rfl⟩ := H
  go_enter Tryz.func40, Tryz.ntmps40
  go_wp2_with (first | (refine bx 3 #[.slice A0_0 l0_0.length c0_0, .int .i64 a0_1, .int .i64 a0_2] 32 ?_; intro gb398 hg w5 hbox hb; have BK398 := aS (hbox); have GW398 := aS (gw HB hg); have GE398 := aS (gw HB hg); replace HB := aS (below_step bB hb); clear hb hbox hg) | (refine bx 6 #[.slice none 0 0, .int .i64 0, .int .i64 0] 32 ?_; intro gb399 hg w6 hbox hb; have BK399 := aS (hbox); have GW399 := aS (gw HB hg); have GE399 := aS (gw HB hg); replace HB := aS (below_step bS hb); have NB398_399 := aS ((by rw [hg]; exact Nat.ne_of_lt (blk_lt (kb BK398)) : gb398 ≠ gb399)); have NB399_398 := aS ((by rw [hg]; exact Nat.ne_of_gt (blk_lt (kb BK398)) : gb399 ≠ gb398)); replace BK398 := aS (blk_below (kb BK398) hb); clear hb hbox hg; have hnb7 := NB398_399.out; have hnc7 := NB399_398.out; have hz8 := cel3 BK398.out; have hz9 := cel3 BK399.out))
  refine bodyPost_ret (results_cell_row rfl _ _ gb399 32 #[.slice A0_0 l0_0.length c0_0, .int .i64 a0_1, .int .i64 a0_2] (0, 0) _ rfl (kp BK399) Tryz.underlying32 rfl (by kernel_rfl)) rfl ?_
  exact ⟨by first | rfl | (simp <;> rfl) | (simp [*] <;> rfl), bS⟩
 ·rw [if_neg c4] at H
  have c4b0 : ((l0_0.length : Int) == 0) = false := beq_eq_false_iff_ne.mpr c4
  have c4b1 : ((l0_0.length : Int) != 0) = true := bne_iff_ne.mpr c4
  have c4b2 : ¬ (l0_0 = []) := fun h_ => c4 (by rw [h_]; rfl)
  replace H := Option.bind_eq_some_iff.mp H
  obtain ⟨t400, A100, H⟩ := H
  try dsimp only at H
  have A10 := aS A100
  clear A100
  replace H := Option.bind_eq_some_iff.mp H
  obtain ⟨t401, A110, H⟩ := H
  try dsimp only at H
  have A11 := aS A110
  clear A110
  replace H := Option.bind_eq_some_iff.mp H
  obtain ⟨t402, A120, H⟩ := H
  try dsimp only at H
  have A12 := aS A120
  clear A120
  simp only [Option.some.injEq, Prod.mk.injEq] at H
  obtain ⟨rfl, rfl⟩ := H
  go_enter Tryz.func40, Tryz.ntmps40
  try go_wp2_with (first | (refine bx 3 #[.slice A0_0 l0_0.length c0_0, .int .i64 a0_1, .int .i64 a0_2] 32 ?_; intro gb398 hg w13 hbox hb; have BK398 := aS (hbox); have GW398 := aS (gw HB hg); have GE398 := aS (gw HB hg); replace HB := aS (below_step bB hb); clear hb hbox hg) | (refine bx 6 #[.slice none 0 0, .int .i64 0, .int .i64 0] 32 ?_; intro gb399 hg w14 hbox hb; have BK399 := aS (hbox); have GW399 := aS (gw HB hg); have GE399 := aS (gw HB hg); replace HB := aS (below_step bS hb); have NB398_399 := aS ((by rw [hg]; exact Nat.ne_of_lt (blk_lt (kb BK398)) : gb398 ≠ gb399)); have NB399_398 := aS ((by rw [hg]; exact Nat.ne_of_gt (blk_lt (kb BK398)) : gb399 ≠ gb398)); replace BK398 := aS (blk_below (kb BK398) hb); clear hb hbox hg; have hnb15 := NB398_399.out; have hnc15 := NB399_398.out; have hz16 := cel3 BK398.out))
  replace BK398 := aS (blk_drew BK398.out)
  replace BK399 := aS (blk_drew BK399.out)
  replace HB := aS (below_drew1 HB.out)
  refine start_ (n := 13) (S := fun w' => w'.cell? ⟨gb398, 0, none⟩ = some (.slice A0_0 l0_0.length c0_0) ∧ w'.cell? ⟨gb398, 1, none⟩ = some (.int .i64 a0_1) ∧ w'.cell? ⟨gb398, 2, none⟩ = some (.int .i64 a0_2)) (ds := [10, 12]) (tb 13 0) (by kernel_rfl) rfl rfl (c3 BK398.out) (fun hHeld => ?_); refine with_tabW prolepsisref07_Move.tab3 prolepsisref07_Move.bits3 (fun HT_ HW_ => ?_)
  generalize w14.drew = w17 at BK398 BK399 HB hHeld ⊢
  refine tp 0 (some 12) (tb 13 1) ?_
  refine tp 1 (some 13) (tb 13 3) ?_
  refine tp 5 (some 17) (tb 13 35) ?_
  refine tk 2 (some 14) (tb 13 39) ?_
  refine tp 3 (some 15) (tb 13 47) ?_
  refine tk 6 (some 18) (tb 13 111) ?_
  refine st1 4 (some 16) (tb 13 127) (fun K hK => ?_)
  refine gO Tryz.func74 #[.int .i64 a1, .int .i64 (l0_0.length : Int)] ?_
  with_reducible refine (prolepsisref07_bring.calls a1 (l0_0.length : Int) t400 _ A10.out).mono ?_
  rintro e w' ⟨rfl, ⟨nd, rfl⟩⟩
  refine ⟨_, rfl, ?_⟩
  refine hK.out _ _ (c3 BK398.out) (fun hHeld => ?_)
  clear hK K
  refine nm ?_
  refine tp 9 (some 21) (tb 13 639) ?_
  refine st1 7 (some 19) (tb 13 767) (fun K hK => ?_)
  refine gO Tryz.func19 #[.agg #[.slice A0_0 l0_0.length c0_0, .int .i64 a0_1, .int .i64 a0_2]] ?_
  with_reducible refine (prolepsisref07_Cols.calls _ _ l0_0 a0_1 a0_2 t401 _ ?side1 ?side2 A11.out).mono ?_
  (case side1 => repeat (first | exact (Kd.C_below HR0_0.out bS) | (with_reducible refine Kd.C_alloc ?_ _) | (with_reducible refine Kd.C_drewN ?_ _) | (with_reducible refine Kd.C_drew ?_)))
  (case side2 => exact HC0_0.out)
  rintro e w18 ⟨rfl, hb⟩
  refine ⟨_, rfl, ?_⟩
  replace BK398 := aS (blk_below (kb BK398) hb)
  replace BK399 := aS (blk_below (kb BK399) hb)
  replace HB := aS (below_step bS hb)
  (try clear hb)
  (try clear hb2)
  (try clear hk)
  (try clear hi)
  refine hK.out _ _ (c3 BK398.out) (fun hHeld => ?_)
  clear hK K
  refine nm ?_
  refine st1 8 (some 20) (tb 13 1023) (fun K hK => ?_)
  refine gO Tryz.func74 #[.int .i64 a2, .int .i64 t401] ?_
  with_reducible refine (prolepsisref07_bring.calls a2 t401 t402 _ A12.out).mono ?_
  rintro e w' ⟨rfl, ⟨nd, rfl⟩⟩
  refine ⟨_, rfl, ?_⟩
  refine hK.out _ _ (c3 BK398.out) (fun hHeld => ?_)
  clear hK K
  refine nm ?_
  refine last_ (i := 10) (N := none) (tb 13 2047) rfl rfl (one_of HT_.out (by kernel_rfl)) (by decide) (fun K hK => ?_)
  have hs19 : w18.cell? ⟨gb398, 1, none⟩ = some (.int .i64 a0_1) := (blk_cell BK398.out 1).trans rfl
  have hfs19 := blk_frozen BK398.out 1
  have hns19_1 := NB399_398.out
  have hms19_1 := NB398_399.out
  refine skip_ (w1 := ?_) (by rfl) rfl ?_ ?_
  rotate_left
  ·go_simp
   rfl
  refine hK.out _ _ ?_
  clear hK K
  refine tp 11 (some 22) (tb 13 4095) ?_
  refine last_ (i := 12) (N := none) (tb 13 8191) rfl rfl (one_of HT_.out (by kernel_rfl)) (by decide) (fun K hK => ?_)
  have hs20 : w18.cell? ⟨gb398, 2, none⟩ = some (.int .i64 a0_2) := (blk_cell BK398.out 2).trans rfl
  have hfs20 := blk_frozen BK398.out 2
  have hns20_1 := NB399_398.out
  have hms20_1 := NB398_399.out
  refine skip_ (w1 := ?_) (by rfl) rfl ?_ ?_
  rotate_left
  ·go_simp
   rfl
  refine hK.out _ _ ?_
  clear hK K
  refine done_ (done_of HT_.out (by kernel_rfl)) ?_
  have hz21 := cel3 BK398.out
  have hz22 := cel3 BK399.out
  try go_wp2
  refine bodyPost_ret (results_cell_row rfl _ _ gb399 32 #[.slice A0_0 l0_0.length c0_0, .int .i64 t400, .int .i64 t402] (0, 0) _ rfl (kp BK399) Tryz.underlying32 rfl (by kernel_rfl)) rfl ?_
  exact ⟨by first | rfl | (simp <;> rfl) | (simp [*] <;> rfl), bS⟩
def prolepsisref06_Fit.l0 : Nat → List (S52) → Int → List (S52) → Int → Option ((List (S52)))
 | 0, _, _, _, _ => none
 | k + 1, x0, x1, x5, x6 => (prolepsisref06_length.f x1).bind fun t403 => (if x6 < t403 then ((prolepsisref05_Blank.f 0 0 0).bind fun bt404 => (if x6 < (x0.length : Int) then (if 0 ≤ x6 then (if x5.length < 4398046511104 then (prolepsisref06_Fit.l0 k x0 x1 (x5 ++ [(⟨(rd_T52 x0 x6).f0, (⟨(rd_T52 x0 x6).f1.f0, (rd_T52 x0 x6).f1.f1⟩ : S49), (rd_T52 x0 x6).f2, (⟨(rd_T52 x0 x6).f3.f0, (rd_T52 x0 x6).f3.f1, (rd_T52 x0 x6).f3.f2⟩ : S50)⟩ : S52)]) (wrap64 (x6 + 1))) else (none)) else (none)) else (if x5.length < 4398046511104 then (prolepsisref06_Fit.l0 k x0 x1 (x5 ++ [(⟨bt404.1, (⟨bt404.2.1, bt404.2.2.1⟩ : S49), bt404.2.2.2.1, (⟨bt404.2.2.2.2.1, bt404.2.2.2.2.2.1, bt404.2.2.2.2.2.2⟩ : S50)⟩ : S52)]) (wrap64 (x6 + 1))) else (none)))) else ((prolepsisref06_Mend.f k x5).bind fun t419 => (some t419)))
def prolepsisref06_Fit.f (k : Nat) (l0 : List (S52)) (a1 : Int) : Option ((List (S52))) := prolepsisref06_Fit.l0 k l0 a1 ([] : List (S52)) 0
set_option maxHeartbeats 8000000 in
set_option maxRecDepth 100000 in
theorem prolepsisref06_Fit.calls (k : Nat) (A0 : Option Addr) (c0 : Nat) (l0 : List (S52)) (a1 : Int) (r : List (S52)) (w : World) (hr0 : Kd.C k52 w A0 l0.length l0) (hc0 : l0.length ≤ c0) (h : prolepsisref06_Fit.f k l0 a1 = some r) :
 Calls Tryz.prog 75 #[.slice A0 l0.length c0, .int .i64 a1] w fun e w' => ∃ v0_ : Value, e = .returned (v0_) ∧ Kd.R k52 52 w' w.heap.size (fun _ => True) v0_ r ∧ Below w.heap.size w w' := by
 have hu50 := Tryz.underlying50
 have hu52 := Tryz.underlying52
 have HR0 := aS hr0
 have HC0 := aS hc0
 clear hr0 hc0
 have HB := aS (Below.refl w.heap.size w)
 have H : (prolepsisref06_Fit.l0 k l0 a1 ([] : List (S52)) 0) = some r := h
 clear h
 have H' := aS H
 clear H
 go_enter Tryz.func75, Tryz.ntmps75
 go_wp2
 go_loopg [5, 6] k (fun kq v5 v6 w' => ∃ (x5_1 : List (S52)) (x6_1 : Int), v6 = .int .i64 x6_1 ∧ Aside0 (prolepsisref06_Fit.l0 kq l0 a1 x5_1 x6_1 = some r) ∧ Aside0 (kq ≤ k) ∧ Aside0 (Kd.R k52 52 w' w.heap.size (fun _ => True) v5 x5_1) ∧ Aside0 (Below w.heap.size w w'))
 case atStart => exact ⟨(([] : List (S52))), (0), fS, H', ⟨Nat.le_refl _⟩, ⟨by first | exact Kd.R_nil _ _ _ _ _ | exact Kd.N_nil _ _ _ _ _ | exact Kd.V_nil _ _ _ _ _ | exact Kd.Q_nil _ _ _ _ _ | exact Kd.S_nil _ _ _ _ _⟩, ⟨bB⟩⟩
 case round =>
  clear H'
  try clear p2
  obtain ⟨x5_1, x6_1, rfl, HA, HK1, HO_5, HB⟩ := hrel
  cases gk with
  | zero => exact absurd HA.out (by simp [prolepsisref06_Fit.l0])
  | succ k1 =>
   have H := HA.out
   clear HA
   simp only [prolepsisref06_Fit.l0] at H
   replace H := Option.bind_eq_some_iff.mp H
   obtain ⟨t403, A30, H⟩ := H
   try dsimp only at H
   have A3 := aS A30
   clear A30
   by_cases c4 : x6_1 < t403
   ·rw [if_pos c4] at H
    have c4b0 : decide (x6_1 < t403) = true := decide_eq_true c4
    clear c4
    replace H := Option.bind_eq_some_iff.mp H
    obtain ⟨⟨t404, t405, t406, t407, t408, t409, t410⟩, A50, H⟩ := H
    try dsimp only at H
    have A5 := aS A50
    clear A50
    by_cases c6 : x6_1 < (l0.length : Int)
    ·rw [if_pos c6] at H
     have c6b0 : decide (x6_1 < (l0.length : Int)) = true := decide_eq_true c6
     clear c6
     obtain ⟨c7, H⟩ := ifS H
     have c7b0 : decide (0 ≤ x6_1) = true := decide_eq_true c7
     clear c7
     obtain ⟨c8, H⟩ := ifS H
     have LMc8 := aS c8
     clear c8
     obtain ⟨y413, hy413⟩ : ∃ y_ : List (S52), y_ = (x5_1 ++ [(⟨(rd_T52 l0 x6_1).f0, (⟨(rd_T52 l0 x6_1).f1.f0, (rd_T52 l0 x6_1).f1.f1⟩ : S49), (rd_T52 l0 x6_1).f2, (⟨(rd_T52 l0 x6_1).f3.f0, (rd_T52 l0 x6_1).f3.f1, (rd_T52 l0 x6_1).f3.f2⟩ : S50)⟩ : S52)]) := ⟨_, rfl⟩
     replace H : (prolepsisref06_Fit.l0 k1 l0 a1 y413 (wrap64 (x6_1 + 1))) = some r := rq hy413 H
     have Ny413 := aS hy413
     clear hy413
     have H' := aS H
     clear H
     go_wp2_with (first | (refine gL 63 10 Tryz.func63 #[.int .i64 a1] ?_; (with_reducible refine (prolepsisref06_length.calls a1 t403 _ A3.out).mono ?_); rintro e w' ⟨rfl, ⟨nd, rfl⟩⟩; refine ⟨_, rfl, ?_⟩; (try (rw [drewN_self wr]; generalize hq_ : World.drewN wr _ = wr; have n0_ : Aside0 (Kd.R k52 52 wr w.heap.size (fun _ => True) u5 x5_1) := ⟨by rw [← hq_]; exact (rr HO_5)⟩; have n1_ : Aside0 (Below w.heap.size w wr) := ⟨by rw [← hq_]; exact bB⟩; clear HO_5 HB hq_; have HO_5 := n0_; have HB := n1_; clear n0_ n1_))) | (refine gL 64 15 Tryz.func64 #[.agg #[.int .u8 0, .int .u8 0, .int .u8 0]] ?_; (with_reducible refine (prolepsisref05_Blank.calls 0 0 0 t404 t405 t406 t407 t408 t409 t410 _ A5.out).mono ?_); rintro e w9 ⟨rfl, hb⟩; refine ⟨_, rfl, ?_⟩; replace HO_5 := aS (Kd.R_below (rr HO_5) hb); replace HB := aS (below_step bB hb); (try clear hb); (try clear hb2); (try clear hk); (try clear hi)) | (refine bx 7 #[.int .i64 0, .int .i64 0, .int .i64 0, .int .u8 0, .int .u8 0, .int .u8 0, .int .u8 0] 52 ?_; intro gb411 hg w10 hbox hb; replace HO_5 := aS (Kd.R_below (Kd.R_elderB (rr HO_5) gb411 (Nat.le_of_eq hg.symm)) hb); have BK411 := aS (hbox); have GW411 := aS (gw HB hg); have GE411 := aS (gw HB hg); replace HB := aS (below_step bB hb); clear hb hbox hg; have hz11 := cel7 BK411.out; have p412 : 0 ≤ (x6_1 : Int) := dA; have q412 : x6_1 < (l0.length : Int) := dA; obtain ⟨ad412, e412, hx412_0, hx412_1, hx412_2, hx412_3, hx412_4, hx412_5, hx412_6⟩ := at_T52 HR0.out x6_1 p412 q412; cases e412; have hn412_0 : ad412.block ≠ gb411 := Nat.ne_of_lt (Nat.lt_of_lt_of_le (by have := World.block_lt_of_cell? _ _ hx412_0; first | rwa [add_block] at this | exact this) GW411.out); have hn412_1 : ad412.block ≠ gb411 := Nat.ne_of_lt (Nat.lt_of_lt_of_le (by have := World.block_lt_of_cell? _ _ hx412_0; first | rwa [add_block] at this | exact this) GW411.out); have hn412_2 : ad412.block ≠ gb411 := Nat.ne_of_lt (Nat.lt_of_lt_of_le (by have := World.block_lt_of_cell? _ _ hx412_0; first | rwa [add_block] at this | exact this) GW411.out); have hn412_3 : ad412.block ≠ gb411 := Nat.ne_of_lt (Nat.lt_of_lt_of_le (by have := World.block_lt_of_cell? _ _ hx412_0; first | rwa [add_block] at this | exact this) GW411.out); have hn412_4 : ad412.block ≠ gb411 := Nat.ne_of_lt (Nat.lt_of_lt_of_le (by have := World.block_lt_of_cell? _ _ hx412_0; first | rwa [add_block] at this | exact this) GW411.out); have hn412_5 : ad412.block ≠ gb411 := Nat.ne_of_lt (Nat.lt_of_lt_of_le (by have := World.block_lt_of_cell? _ _ hx412_0; first | rwa [add_block] at this | exact this) GW411.out); have hn412_6 : ad412.block ≠ gb411 := Nat.ne_of_lt (Nat.lt_of_lt_of_le (by have := World.block_lt_of_cell? _ _ hx412_0; first | rwa [add_block] at this | exact this) GW411.out); replace hx412_0 := xc HB hx412_0; replace hx412_1 := xc HB hx412_1; replace hx412_2 := xc HB hx412_2; replace hx412_3 := xc HB hx412_3; replace hx412_4 := xc HB hx412_4; replace hx412_5 := xc HB hx412_5; replace hx412_6 := xc HB hx412_6; replace hx412_0 := (cell_far (p := ⟨gb411, 0, none⟩) (by first | (rw [add_block]; exact hn412_0) | (show (Addr.add _ _).block ≠ _; rw [add_block]; exact hn412_0) | exact hn412_0) (.int .i64 t404)).trans hx412_0; replace hx412_1 := (cell_far (p := ⟨gb411, 0, none⟩) (by first | (rw [add_block]; exact hn412_0) | (show (Addr.add _ _).block ≠ _; rw [add_block]; exact hn412_0) | exact hn412_0) (.int .i64 t404)).trans hx412_1; replace hx412_2 := (cell_far (p := ⟨gb411, 0, none⟩) (by first | (rw [add_block]; exact hn412_0) | (show (Addr.add _ _).block ≠ _; rw [add_block]; exact hn412_0) | exact hn412_0) (.int .i64 t404)).trans hx412_2; replace hx412_3 := (cell_far (p := ⟨gb411, 0, none⟩) (by first | (rw [add_block]; exact hn412_0) | (show (Addr.add _ _).block ≠ _; rw [add_block]; exact hn412_0) | exact hn412_0) (.int .i64 t404)).trans hx412_3; replace hx412_4 := (cell_far (p := ⟨gb411, 0, none⟩) (by first | (rw [add_block]; exact hn412_0) | (show (Addr.add _ _).block ≠ _; rw [add_block]; exact hn412_0) | exact hn412_0) (.int .i64 t404)).trans hx412_4; replace hx412_5 := (cell_far (p := ⟨gb411, 0, none⟩) (by first | (rw [add_block]; exact hn412_0) | (show (Addr.add _ _).block ≠ _; rw [add_block]; exact hn412_0) | exact hn412_0) (.int .i64 t404)).trans hx412_5; replace hx412_6 := (cell_far (p := ⟨gb411, 0, none⟩) (by first | (rw [add_block]; exact hn412_0) | (show (Addr.add _ _).block ≠ _; rw [add_block]; exact hn412_0) | exact hn412_0) (.int .i64 t404)).trans hx412_6; replace hx412_0 := (cell_far (p := ⟨gb411, 1, none⟩) (by first | (rw [add_block]; exact hn412_1) | (show (Addr.add _ _).block ≠ _; rw [add_block]; exact hn412_1) | exact hn412_1) (.int .i64 t405)).trans hx412_0; replace hx412_1 := (cell_far (p := ⟨gb411, 1, none⟩) (by first | (rw [add_block]; exact hn412_1) | (show (Addr.add _ _).block ≠ _; rw [add_block]; exact hn412_1) | exact hn412_1) (.int .i64 t405)).trans hx412_1; replace hx412_2 := (cell_far (p := ⟨gb411, 1, none⟩) (by first | (rw [add_block]; exact hn412_1) | (show (Addr.add _ _).block ≠ _; rw [add_block]; exact hn412_1) | exact hn412_1) (.int .i64 t405)).trans hx412_2; replace hx412_3 := (cell_far (p := ⟨gb411, 1, none⟩) (by first | (rw [add_block]; exact hn412_1) | (show (Addr.add _ _).block ≠ _; rw [add_block]; exact hn412_1) | exact hn412_1) (.int .i64 t405)).trans hx412_3; replace hx412_4 := (cell_far (p := ⟨gb411, 1, none⟩) (by first | (rw [add_block]; exact hn412_1) | (show (Addr.add _ _).block ≠ _; rw [add_block]; exact hn412_1) | exact hn412_1) (.int .i64 t405)).trans hx412_4; replace hx412_5 := (cell_far (p := ⟨gb411, 1, none⟩) (by first | (rw [add_block]; exact hn412_1) | (show (Addr.add _ _).block ≠ _; rw [add_block]; exact hn412_1) | exact hn412_1) (.int .i64 t405)).trans hx412_5; replace hx412_6 := (cell_far (p := ⟨gb411, 1, none⟩) (by first | (rw [add_block]; exact hn412_1) | (show (Addr.add _ _).block ≠ _; rw [add_block]; exact hn412_1) | exact hn412_1) (.int .i64 t405)).trans hx412_6; replace hx412_0 := (cell_far (p := ⟨gb411, 2, none⟩) (by first | (rw [add_block]; exact hn412_2) | (show (Addr.add _ _).block ≠ _; rw [add_block]; exact hn412_2) | exact hn412_2) (.int .i64 t406)).trans hx412_0; replace hx412_1 := (cell_far (p := ⟨gb411, 2, none⟩) (by first | (rw [add_block]; exact hn412_2) | (show (Addr.add _ _).block ≠ _; rw [add_block]; exact hn412_2) | exact hn412_2) (.int .i64 t406)).trans hx412_1; replace hx412_2 := (cell_far (p := ⟨gb411, 2, none⟩) (by first | (rw [add_block]; exact hn412_2) | (show (Addr.add _ _).block ≠ _; rw [add_block]; exact hn412_2) | exact hn412_2) (.int .i64 t406)).trans hx412_2; replace hx412_3 := (cell_far (p := ⟨gb411, 2, none⟩) (by first | (rw [add_block]; exact hn412_2) | (show (Addr.add _ _).block ≠ _; rw [add_block]; exact hn412_2) | exact hn412_2) (.int .i64 t406)).trans hx412_3; replace hx412_4 := (cell_far (p := ⟨gb411, 2, none⟩) (by first | (rw [add_block]; exact hn412_2) | (show (Addr.add _ _).block ≠ _; rw [add_block]; exact hn412_2) | exact hn412_2) (.int .i64 t406)).trans hx412_4; replace hx412_5 := (cell_far (p := ⟨gb411, 2, none⟩) (by first | (rw [add_block]; exact hn412_2) | (show (Addr.add _ _).block ≠ _; rw [add_block]; exact hn412_2) | exact hn412_2) (.int .i64 t406)).trans hx412_5; replace hx412_6 := (cell_far (p := ⟨gb411, 2, none⟩) (by first | (rw [add_block]; exact hn412_2) | (show (Addr.add _ _).block ≠ _; rw [add_block]; exact hn412_2) | exact hn412_2) (.int .i64 t406)).trans hx412_6; replace hx412_0 := (cell_far (p := ⟨gb411, 3, none⟩) (by first | (rw [add_block]; exact hn412_3) | (show (Addr.add _ _).block ≠ _; rw [add_block]; exact hn412_3) | exact hn412_3) (.int .u8 t407)).trans hx412_0; replace hx412_1 := (cell_far (p := ⟨gb411, 3, none⟩) (by first | (rw [add_block]; exact hn412_3) | (show (Addr.add _ _).block ≠ _; rw [add_block]; exact hn412_3) | exact hn412_3) (.int .u8 t407)).trans hx412_1; replace hx412_2 := (cell_far (p := ⟨gb411, 3, none⟩) (by first | (rw [add_block]; exact hn412_3) | (show (Addr.add _ _).block ≠ _; rw [add_block]; exact hn412_3) | exact hn412_3) (.int .u8 t407)).trans hx412_2; replace hx412_3 := (cell_far (p := ⟨gb411, 3, none⟩) (by first | (rw [add_block]; exact hn412_3) | (show (Addr.add _ _).block ≠ _; rw [add_block]; exact hn412_3) | exact hn412_3) (.int .u8 t407)).trans hx412_3; replace hx412_4 := (cell_far (p := ⟨gb411, 3, none⟩) (by first | (rw [add_block]; exact hn412_3) | (show (Addr.add _ _).block ≠ _; rw [add_block]; exact hn412_3) | exact hn412_3) (.int .u8 t407)).trans hx412_4; replace hx412_5 := (cell_far (p := ⟨gb411, 3, none⟩) (by first | (rw [add_block]; exact hn412_3) | (show (Addr.add _ _).block ≠ _; rw [add_block]; exact hn412_3) | exact hn412_3) (.int .u8 t407)).trans hx412_5; replace hx412_6 := (cell_far (p := ⟨gb411, 3, none⟩) (by first | (rw [add_block]; exact hn412_3) | (show (Addr.add _ _).block ≠ _; rw [add_block]; exact hn412_3) | exact hn412_3) (.int .u8 t407)).trans hx412_6; replace hx412_0 := (cell_far (p := ⟨gb411, 4, none⟩) (by first | (rw [add_block]; exact hn412_4) | (show (Addr.add _ _).block ≠ _; rw [add_block]; exact hn412_4) | exact hn412_4) (.int .u8 t408)).trans hx412_0; replace hx412_1 := (cell_far (p := ⟨gb411, 4, none⟩) (by first | (rw [add_block]; exact hn412_4) | (show (Addr.add _ _).block ≠ _; rw [add_block]; exact hn412_4) | exact hn412_4) (.int .u8 t408)).trans hx412_1; replace hx412_2 := (cell_far (p := ⟨gb411, 4, none⟩) (by first | (rw [add_block]; exact hn412_4) | (show (Addr.add _ _).block ≠ _; rw [add_block]; exact hn412_4) | exact hn412_4) (.int .u8 t408)).trans hx412_2; replace hx412_3 := (cell_far (p := ⟨gb411, 4, none⟩) (by first | (rw [add_block]; exact hn412_4) | (show (Addr.add _ _).block ≠ _; rw [add_block]; exact hn412_4) | exact hn412_4) (.int .u8 t408)).trans hx412_3; replace hx412_4 := (cell_far (p := ⟨gb411, 4, none⟩) (by first | (rw [add_block]; exact hn412_4) | (show (Addr.add _ _).block ≠ _; rw [add_block]; exact hn412_4) | exact hn412_4) (.int .u8 t408)).trans hx412_4; replace hx412_5 := (cell_far (p := ⟨gb411, 4, none⟩) (by first | (rw [add_block]; exact hn412_4) | (show (Addr.add _ _).block ≠ _; rw [add_block]; exact hn412_4) | exact hn412_4) (.int .u8 t408)).trans hx412_5; replace hx412_6 := (cell_far (p := ⟨gb411, 4, none⟩) (by first | (rw [add_block]; exact hn412_4) | (show (Addr.add _ _).block ≠ _; rw [add_block]; exact hn412_4) | exact hn412_4) (.int .u8 t408)).trans hx412_6; replace hx412_0 := (cell_far (p := ⟨gb411, 5, none⟩) (by first | (rw [add_block]; exact hn412_5) | (show (Addr.add _ _).block ≠ _; rw [add_block]; exact hn412_5) | exact hn412_5) (.int .u8 t409)).trans hx412_0; replace hx412_1 := (cell_far (p := ⟨gb411, 5, none⟩) (by first | (rw [add_block]; exact hn412_5) | (show (Addr.add _ _).block ≠ _; rw [add_block]; exact hn412_5) | exact hn412_5) (.int .u8 t409)).trans hx412_1; replace hx412_2 := (cell_far (p := ⟨gb411, 5, none⟩) (by first | (rw [add_block]; exact hn412_5) | (show (Addr.add _ _).block ≠ _; rw [add_block]; exact hn412_5) | exact hn412_5) (.int .u8 t409)).trans hx412_2; replace hx412_3 := (cell_far (p := ⟨gb411, 5, none⟩) (by first | (rw [add_block]; exact hn412_5) | (show (Addr.add _ _).block ≠ _; rw [add_block]; exact hn412_5) | exact hn412_5) (.int .u8 t409)).trans hx412_3; replace hx412_4 := (cell_far (p := ⟨gb411, 5, none⟩) (by first | (rw [add_block]; exact hn412_5) | (show (Addr.add _ _).block ≠ _; rw [add_block]; exact hn412_5) | exact hn412_5) (.int .u8 t409)).trans hx412_4; replace hx412_5 := (cell_far (p := ⟨gb411, 5, none⟩) (by first | (rw [add_block]; exact hn412_5) | (show (Addr.add _ _).block ≠ _; rw [add_block]; exact hn412_5) | exact hn412_5) (.int .u8 t409)).trans hx412_5; replace hx412_6 := (cell_far (p := ⟨gb411, 5, none⟩) (by first | (rw [add_block]; exact hn412_5) | (show (Addr.add _ _).block ≠ _; rw [add_block]; exact hn412_5) | exact hn412_5) (.int .u8 t409)).trans hx412_6; replace hx412_0 := (cell_far (p := ⟨gb411, 6, none⟩) (by first | (rw [add_block]; exact hn412_6) | (show (Addr.add _ _).block ≠ _; rw [add_block]; exact hn412_6) | exact hn412_6) (.int .u8 t410)).trans hx412_0; replace hx412_1 := (cell_far (p := ⟨gb411, 6, none⟩) (by first | (rw [add_block]; exact hn412_6) | (show (Addr.add _ _).block ≠ _; rw [add_block]; exact hn412_6) | exact hn412_6) (.int .u8 t410)).trans hx412_1; replace hx412_2 := (cell_far (p := ⟨gb411, 6, none⟩) (by first | (rw [add_block]; exact hn412_6) | (show (Addr.add _ _).block ≠ _; rw [add_block]; exact hn412_6) | exact hn412_6) (.int .u8 t410)).trans hx412_2; replace hx412_3 := (cell_far (p := ⟨gb411, 6, none⟩) (by first | (rw [add_block]; exact hn412_6) | (show (Addr.add _ _).block ≠ _; rw [add_block]; exact hn412_6) | exact hn412_6) (.int .u8 t410)).trans hx412_3; replace hx412_4 := (cell_far (p := ⟨gb411, 6, none⟩) (by first | (rw [add_block]; exact hn412_6) | (show (Addr.add _ _).block ≠ _; rw [add_block]; exact hn412_6) | exact hn412_6) (.int .u8 t410)).trans hx412_4; replace hx412_5 := (cell_far (p := ⟨gb411, 6, none⟩) (by first | (rw [add_block]; exact hn412_6) | (show (Addr.add _ _).block ≠ _; rw [add_block]; exact hn412_6) | exact hn412_6) (.int .u8 t410)).trans hx412_5; replace hx412_6 := (cell_far (p := ⟨gb411, 6, none⟩) (by first | (rw [add_block]; exact hn412_6) | (show (Addr.add _ _).block ≠ _; rw [add_block]; exact hn412_6) | exact hn412_6) (.int .u8 t410)).trans hx412_6; clear hn412_0; clear hn412_1; clear hn412_2; clear hn412_3; clear hn412_4; clear hn412_5; clear hn412_6; replace p412 := eq_true p412; replace q412 := eq_true q412) | ((with_reducible refine gate_builtin (b := .append) (xs := #[.tmp 24, .tmp 26]) rfl ?_); at_builtin; refine Kd.R_append k52 (w0 := w) w.heap.size rfl (.tmp 24) (.tmp 26) 72 52 (.agg #[(.int .i64 0), (.int .i64 0), (.int .i64 0), (.int .u8 0), (.int .u8 0), (.int .u8 0), (.int .u8 0)]) 32 rfl Tryz.underlying72 info52 rfl (by decide) (by omega) u5 x5_1 (⟨(rd_T52 l0 x6_1).f0, (⟨(rd_T52 l0 x6_1).f1.f0, (rd_T52 l0 x6_1).f1.f1⟩ : S49), (rd_T52 l0 x6_1).f2, (⟨(rd_T52 l0 x6_1).f3.f0, (rd_T52 l0 x6_1).f3.f1, (rd_T52 l0 x6_1).f3.f2⟩ : S50)⟩ : S52) [.int .i64 ((rd_T52 l0 x6_1).f0), .int .i64 ((rd_T52 l0 x6_1).f1.f0), .int .i64 ((rd_T52 l0 x6_1).f1.f1), .int .u8 ((rd_T52 l0 x6_1).f2), .int .u8 ((rd_T52 l0 x6_1).f3.f0), .int .u8 ((rd_T52 l0 x6_1).f3.f1), .int .u8 ((rd_T52 l0 x6_1).f3.f2)] (fun k_ => k_ ≠ gb411) (fun _ => False) rfl (by first | (go_simp; done) | (go_simp; rfl)) ?aP (fun _ hk => hk.elim) ?aF ?aO ?aB ?aS ?aL ?_; (case aP => exact k52_mkM _ _ _ (⟨(rd_T52 l0 x6_1).f0, (⟨(rd_T52 l0 x6_1).f1.f0, (rd_T52 l0 x6_1).f1.f1⟩ : S49), (rd_T52 l0 x6_1).f2, (⟨(rd_T52 l0 x6_1).f3.f0, (rd_T52 l0 x6_1).f3.f1, (rd_T52 l0 x6_1).f3.f2⟩ : S50)⟩ : S52)); (case aB => exact bS); (case aF => exact (fun k_ hk => Kd.freshB (g := gb411) (o := .cells #[.int .i64 ((rd_T52 l0 x6_1).f0), .int .i64 ((rd_T52 l0 x6_1).f1.f0), .int .i64 ((rd_T52 l0 x6_1).f1.f1), .int .u8 ((rd_T52 l0 x6_1).f2), .int .u8 ((rd_T52 l0 x6_1).f3.f0), .int .u8 ((rd_T52 l0 x6_1).f3.f1), .int .u8 ((rd_T52 l0 x6_1).f3.f2)] 52 (0, 0)) (kp BK411) k_ hk)); (case aO => exact (by (with_reducible repeat (first | apply rA | apply rN | apply rD)); exact Kd.R_mono (rK (Kd.R_mono HO_5.out (fun k_ hk => (⟨hk, hk.2⟩ : _ ∧ k_ ≠ gb411)))) (fun _ hk => hk.1.2))); (case aS => exact (below_size bS)); (case aL => have := LMc8.out; omega); intro v414 w12 ho hb hg hat; rw [← Ny413.out] at ho; replace BK411 := aS (blk_grown (g := gb411) (o := .cells #[.int .i64 ((rd_T52 l0 x6_1).f0), .int .i64 ((rd_T52 l0 x6_1).f1.f0), .int .i64 ((rd_T52 l0 x6_1).f1.f1), .int .u8 ((rd_T52 l0 x6_1).f2), .int .u8 ((rd_T52 l0 x6_1).f3.f0), .int .u8 ((rd_T52 l0 x6_1).f3.f1), .int .u8 ((rd_T52 l0 x6_1).f3.f2)] 52 (0, 0)) (kp BK411) hg (Kd.R_away HO_5.out (fun _ hk => hk.2))); replace HB := aS (hb); have HO415 := aS (ho); clear HO_5; clear ho hb hg hat))
     go_roundg k1
     case measure => have := HK1.out; omega
     case rel => exact ⟨(y413), (wrap64 (x6_1 + 1)), fS, H', ⟨by have := HK1.out; omega⟩, ⟨by (with_reducible repeat (first | apply rA | apply rN | apply rD)); exact Kd.R_mono HO415.out (fun _ hk => trivial)⟩, ⟨bS⟩⟩
    ·rw [if_neg c6] at H
     have c6b0 : decide (x6_1 < (l0.length : Int)) = false := decide_eq_false c6
     clear c6
     obtain ⟨c13, H⟩ := ifS H
     have LMc13 := aS c13
     clear c13
     obtain ⟨y416, hy416⟩ : ∃ y_ : List (S52), y_ = (x5_1 ++ [(⟨t404, (⟨t405, t406⟩ : S49), t407, (⟨t408, t409, t410⟩ : S50)⟩ : S52)]) := ⟨_, rfl⟩
     replace H : (prolepsisref06_Fit.l0 k1 l0 a1 y416 (wrap64 (x6_1 + 1))) = some r := rq hy416 H
     have Ny416 := aS hy416
     clear hy416
     have H' := aS H
     clear H
     go_wp2_with (first | (refine gL 63 10 Tryz.func63 #[.int .i64 a1] ?_; (with_reducible refine (prolepsisref06_length.calls a1 t403 _ A3.out).mono ?_); rintro e w' ⟨rfl, ⟨nd, rfl⟩⟩; refine ⟨_, rfl, ?_⟩; (try (rw [drewN_self wr]; generalize hq_ : World.drewN wr _ = wr; have n0_ : Aside0 (Kd.R k52 52 wr w.heap.size (fun _ => True) u5 x5_1) := ⟨by rw [← hq_]; exact (rr HO_5)⟩; have n1_ : Aside0 (Below w.heap.size w wr) := ⟨by rw [← hq_]; exact bB⟩; clear HO_5 HB hq_; have HO_5 := n0_; have HB := n1_; clear n0_ n1_))) | (refine gL 64 15 Tryz.func64 #[.agg #[.int .u8 0, .int .u8 0, .int .u8 0]] ?_; (with_reducible refine (prolepsisref05_Blank.calls 0 0 0 t404 t405 t406 t407 t408 t409 t410 _ A5.out).mono ?_); rintro e w14 ⟨rfl, hb⟩; refine ⟨_, rfl, ?_⟩; replace HO_5 := aS (Kd.R_below (rr HO_5) hb); replace HB := aS (below_step bB hb); (try clear hb); (try clear hb2); (try clear hk); (try clear hi)) | (refine bx 7 #[.int .i64 0, .int .i64 0, .int .i64 0, .int .u8 0, .int .u8 0, .int .u8 0, .int .u8 0] 52 ?_; intro gb411 hg w15 hbox hb; replace HO_5 := aS (Kd.R_below (Kd.R_elderB (rr HO_5) gb411 (Nat.le_of_eq hg.symm)) hb); have BK411 := aS (hbox); have GW411 := aS (gw HB hg); have GE411 := aS (gw HB hg); replace HB := aS (below_step bB hb); clear hb hbox hg; have hz16 := cel7 BK411.out) | ((with_reducible refine gate_builtin (b := .append) (xs := #[.tmp 24, .tmp 26]) rfl ?_); at_builtin; refine Kd.R_append k52 (w0 := w) w.heap.size rfl (.tmp 24) (.tmp 26) 72 52 (.agg #[(.int .i64 0), (.int .i64 0), (.int .i64 0), (.int .u8 0), (.int .u8 0), (.int .u8 0), (.int .u8 0)]) 32 rfl Tryz.underlying72 info52 rfl (by decide) (by omega) u5 x5_1 (⟨t404, (⟨t405, t406⟩ : S49), t407, (⟨t408, t409, t410⟩ : S50)⟩ : S52) [.int .i64 t404, .int .i64 t405, .int .i64 t406, .int .u8 t407, .int .u8 t408, .int .u8 t409, .int .u8 t410] (fun k_ => k_ ≠ gb411) (fun _ => False) rfl (by first | (go_simp; done) | (go_simp; rfl)) ?aP (fun _ hk => hk.elim) ?aF ?aO ?aB ?aS ?aL ?_; (case aP => exact k52_mkM _ _ _ (⟨t404, (⟨t405, t406⟩ : S49), t407, (⟨t408, t409, t410⟩ : S50)⟩ : S52)); (case aB => exact bS); (case aF => exact (fun k_ hk => Kd.freshB (g := gb411) (o := .cells #[.int .i64 t404, .int .i64 t405, .int .i64 t406, .int .u8 t407, .int .u8 t408, .int .u8 t409, .int .u8 t410] 52 (0, 0)) (kp BK411) k_ hk)); (case aO => exact (by (with_reducible repeat (first | apply rA | apply rN | apply rD)); exact Kd.R_mono (rK (Kd.R_mono HO_5.out (fun k_ hk => (⟨hk, hk.2⟩ : _ ∧ k_ ≠ gb411)))) (fun _ hk => hk.1.2))); (case aS => exact (below_size bS)); (case aL => have := LMc13.out; omega); intro v417 w17 ho hb hg hat; rw [← Ny416.out] at ho; replace BK411 := aS (blk_grown (g := gb411) (o := .cells #[.int .i64 t404, .int .i64 t405, .int .i64 t406, .int .u8 t407, .int .u8 t408, .int .u8 t409, .int .u8 t410] 52 (0, 0)) (kp BK411) hg (Kd.R_away HO_5.out (fun _ hk => hk.2))); replace HB := aS (hb); have HO418 := aS (ho); clear HO_5; clear ho hb hg hat))
     go_roundg k1
     case measure => have := HK1.out; omega
     case rel => exact ⟨(y416), (wrap64 (x6_1 + 1)), fS, H', ⟨by have := HK1.out; omega⟩, ⟨by (with_reducible repeat (first | apply rA | apply rN | apply rD)); exact Kd.R_mono HO418.out (fun _ hk => trivial)⟩, ⟨bS⟩⟩
   ·rw [if_neg c4] at H
    have c4b0 : decide (x6_1 < t403) = false := decide_eq_false c4
    clear c4
    replace H := Option.bind_eq_some_iff.mp H
    obtain ⟨t419, A180, H⟩ := H
    try dsimp only at H
    have A18 := aS A180
    clear A180
    obtain rfl := Option.some.inj H
    go_wp2_with (first | (refine gL 63 10 Tryz.func63 #[.int .i64 a1] ?_; (with_reducible refine (prolepsisref06_length.calls a1 t403 _ A3.out).mono ?_); rintro e w' ⟨rfl, ⟨nd, rfl⟩⟩; refine ⟨_, rfl, ?_⟩; obtain ⟨Ao19, co19, eo19⟩ := Kd.R_slice HO_5.out; subst eo19) | (refine gL 94 29 Tryz.func94 #[.slice Ao19 x5_1.length co19] ?_; (with_reducible refine (prolepsisref06_Mend.calls k1 _ _ x5_1 t419 _ ?side1 ?side2 A18.out).mono ?_); (case side1 => exact rC (Kd.R_reads' HO_5.out)); (case side2 => exact (Kd.R_reads' HO_5.out).2.1); rintro e w20 ⟨v420, rfl, ho0, hb⟩; refine ⟨_, rfl, ?_⟩; have HO421 := aS (Kd.R_lower (Kd.R_new' ho0 (Kd.R_lt (rr HO_5))) (below_size bB)); replace HO_5 := aS (Kd.R_elder' (rr HO_5) (Kd.R_base ho0) hb); replace HB := aS (below_step bB hb); (try clear hb); (try clear hb2); (try clear hk); (try clear hi); (try clear ho0)))
    go_ret
    exact ⟨_, by first | rfl | (simp <;> rfl) | (simp [*] <;> rfl), by (with_reducible repeat (first | apply rA | apply rN | apply rD)); exact Kd.R_mono HO421.out (fun _ hk => trivial), bB⟩
def cell_Cell_97.l0 : Nat → List (S40) → List (S40) → Int → Int → Option (Bool)
 | 0, _, _, _, _ => none
 | k + 1, x0, x1, x12, x13 => if x13 < x12 then (if 0 ≤ x13 then (if x13 < (x0.length : Int) then (if x13 < (x1.length : Int) then (if (!(((rd_T40 x0 x13).f0) == ((rd_T40 x1 x13).f0)) || ((!(((rd_T40 x0 x13).f1.f0) == ((rd_T40 x1 x13).f1.f0)) || (!(((rd_T40 x0 x13).f1.f1) == ((rd_T40 x1 x13).f1.f1)))) || (!(((rd_T40 x0 x13).f2) == ((rd_T40 x1 x13).f2)) || ((!(((rd_T40 x0 x13).f3.f0) == ((rd_T40 x1 x13).f3.f0)) || (!(((rd_T40 x0 x13).f3.f1) == ((rd_T40 x1 x13).f3.f1)) || (!(((rd_T40 x0 x13).f3.f2) == ((rd_T40 x1 x13).f3.f2))))))))) = true then (some false) else (cell_Cell_97.l0 k x0 x1 x12 (wrap64 (x13 + 1)))) else (none)) else (none)) else (none)) else (some true)
def cell_Cell_97.f (k : Nat) (l0 : List (S40)) (l1 : List (S40)) : Option (Bool) := if (l0.length : Int) = (l1.length : Int) then (cell_Cell_97.l0 k l0 l1 (l0.length : Int) 0) else (some false)
set_option maxHeartbeats 8000000 in
set_option maxRecDepth 100000 in
theorem cell_Cell_97.calls (k : Nat) (A0 : Option Addr) (c0 : Nat) (l0 : List (S40)) (A1 : Option Addr) (c1 : Nat) (l1 : List (S40)) (r : Bool) (w : World) (hr0 : Kd.C k40 w A0 l0.length l0) (hc0 : l0.length ≤ c0) (hr1 : Kd.C k40 w A1 l1.length l1) (hc1 : l1.length ≤ c1) (h : cell_Cell_97.f k l0 l1 = some r) :
 Calls Tryz.prog 97 #[.slice A0 l0.length c0, .slice A1 l1.length c1] w fun e w' => e = .returned (.bool r) ∧ Drawn0 w w' := by
 have hu40 := Tryz.underlying40
 have HR0 := aS hr0
 have HC0 := aS hc0
 clear hr0 hc0
 have HR1 := aS hr1
 have HC1 := aS hc1
 clear hr1 hc1
 have H : (if (l0.length : Int) = (l1.length : Int) then (cell_Cell_97.l0 k l0 l1 (l0.length : Int) 0) else (some false)) = some r := h
 clear h
 by_cases c3 : (l0.length : Int) = (l1.length : Int)
 ·rw [if_pos c3] at H
  have c3b0 : ((l0.length : Int) == (l1.length : Int)) = true := beq_iff_eq.mpr c3
  have c3b1 : ((l0.length : Int) != (l1.length : Int)) = false := bne_eq_false_iff_eq.mpr c3
  have c3b2 : (l0.length == l1.length) = true := by first | simpa using c3 | (simp at c3 ⊢; omega)
  clear c3
  have H' := aS H
  clear H
  go_enter Tryz.func97, Tryz.ntmps97
  go_wp2
  repeat (go_quiet (fail); try go_wp2)
  go_loopg [13] k (fun kq v13 w' => ∃ (x13_1 : Int), v13 = .int .i64 x13_1 ∧ Aside0 (cell_Cell_97.l0 kq l0 l1 (l0.length : Int) x13_1 = some r) ∧ Aside0 (kq ≤ k) ∧ Drawn0 w w')
  case atStart => exact ⟨(0), fS, H', ⟨Nat.le_refl _⟩, by repeat (first | exact Drawn0.refl _ | apply Drawn0.step)⟩
  case round =>
   clear H'
   try clear c1
   try clear p2
   try clear c3
   try clear c3b0
   try clear c3b1
   try clear c3b2
   obtain ⟨x13_1, rfl, HA, HK1, ⟨m1, rfl⟩⟩ := hrel
   cases gk with
   | zero => exact absurd HA.out (by simp [cell_Cell_97.l0])
   | succ k1 =>
    have H := HA.out
    clear HA
    simp only [cell_Cell_97.l0] at H
    by_cases c4 : x13_1 < (l0.length : Int)
    ·rw [if_pos c4] at H
     have c4b0 : decide (x13_1 < (l0.length : Int)) = true := decide_eq_true c4
     clear c4
     obtain ⟨c5, H⟩ := ifS H
     have c5b0 : decide (0 ≤ x13_1) = true := decide_eq_true c5
     clear c5
     obtain ⟨c6, H⟩ := ifS H
     have c6b0 : decide (x13_1 < (l0.length : Int)) = true := decide_eq_true c6
     clear c6
     obtain ⟨c7, H⟩ := ifS H
     have c7b0 : decide (x13_1 < (l1.length : Int)) = true := decide_eq_true c7
     clear c7
     by_cases c8 : (!(((rd_T40 l0 x13_1).f0) == ((rd_T40 l1 x13_1).f0)) || ((!(((rd_T40 l0 x13_1).f1.f0) == ((rd_T40 l1 x13_1).f1.f0)) || (!(((rd_T40 l0 x13_1).f1.f1) == ((rd_T40 l1 x13_1).f1.f1)))) || (!(((rd_T40 l0 x13_1).f2) == ((rd_T40 l1 x13_1).f2)) || ((!(((rd_T40 l0 x13_1).f3.f0) == ((rd_T40 l1 x13_1).f3.f0)) || (!(((rd_T40 l0 x13_1).f3.f1) == ((rd_T40 l1 x13_1).f3.f1)) || (!(((rd_T40 l0 x13_1).f3.f2) == ((rd_T40 l1 x13_1).f3.f2))))))))) = true
     ·rw [if_pos c8] at H
      have c8b0 : (!(((rd_T40 l0 x13_1).f0) == ((rd_T40 l1 x13_1).f0)) || ((!(((rd_T40 l0 x13_1).f1.f0) == ((rd_T40 l1 x13_1).f1.f0)) || (!(((rd_T40 l0 x13_1).f1.f1) == ((rd_T40 l1 x13_1).f1.f1)))) || (!(((rd_T40 l0 x13_1).f2) == ((rd_T40 l1 x13_1).f2)) || ((!(((rd_T40 l0 x13_1).f3.f0) == ((rd_T40 l1 x13_1).f3.f0)) || (!(((rd_T40 l0 x13_1).f3.f1) == ((rd_T40 l1 x13_1).f3.f1)) || (!(((rd_T40 l0 x13_1).f3.f2) == ((rd_T40 l1 x13_1).f3.f2))))))))) = true := c8
      clear c8
      obtain rfl := Option.some.inj H
      have p422 : 0 ≤ (x13_1 : Int) := dA
      have q422 : x13_1 < (l0.length : Int) := dA
      obtain ⟨ad422, e422, hx422_0, hx422_1, hx422_2, hx422_3, hx422_4, hx422_5, hx422_6⟩ := at_T40 HR0.out x13_1 p422 q422
      cases e422
      replace p422 := eq_true p422
      replace q422 := eq_true q422
      have p423 : 0 ≤ (x13_1 : Int) := dA
      have q423 : x13_1 < (l1.length : Int) := dA
      obtain ⟨ad423, e423, hx423_0, hx423_1, hx423_2, hx423_3, hx423_4, hx423_5, hx423_6⟩ := at_T40 HR1.out x13_1 p423 q423
      cases e423
      replace p423 := eq_true p423
      replace q423 := eq_true q423
      go_wp2
      repeat (go_quiet (fail); try go_wp2)
      go_ret
      exact ⟨by first | rfl | (simp; done) | (simp [*]; done), by repeat (first | exact Drawn0.refl _ | apply Drawn0.step)⟩
     ·rw [if_neg c8] at H
      have c8b0 : (!(((rd_T40 l0 x13_1).f0) == ((rd_T40 l1 x13_1).f0)) || ((!(((rd_T40 l0 x13_1).f1.f0) == ((rd_T40 l1 x13_1).f1.f0)) || (!(((rd_T40 l0 x13_1).f1.f1) == ((rd_T40 l1 x13_1).f1.f1)))) || (!(((rd_T40 l0 x13_1).f2) == ((rd_T40 l1 x13_1).f2)) || ((!(((rd_T40 l0 x13_1).f3.f0) == ((rd_T40 l1 x13_1).f3.f0)) || (!(((rd_T40 l0 x13_1).f3.f1) == ((rd_T40 l1 x13_1).f3.f1)) || (!(((rd_T40 l0 x13_1).f3.f2) == ((rd_T40 l1 x13_1).f3.f2))))))))) = false := by simpa using c8
      clear c8
      have H' := aS H
      clear H
      have p422 : 0 ≤ (x13_1 : Int) := dA
      have q422 : x13_1 < (l0.length : Int) := dA
      obtain ⟨ad422, e422, hx422_0, hx422_1, hx422_2, hx422_3, hx422_4, hx422_5, hx422_6⟩ := at_T40 HR0.out x13_1 p422 q422
      cases e422
      replace p422 := eq_true p422
      replace q422 := eq_true q422
      have p423 : 0 ≤ (x13_1 : Int) := dA
      have q423 : x13_1 < (l1.length : Int) := dA
      obtain ⟨ad423, e423, hx423_0, hx423_1, hx423_2, hx423_3, hx423_4, hx423_5, hx423_6⟩ := at_T40 HR1.out x13_1 p423 q423
      cases e423
      replace p423 := eq_true p423
      replace q423 := eq_true q423
      go_wp2
      repeat (go_quiet (fail); try go_wp2)
      go_roundg k1
      case measure => have := HK1.out; omega
      case rel => exact ⟨(wrap64 (x13_1 + 1)), fS, H', ⟨by have := HK1.out; omega⟩, by repeat (first | exact Drawn0.refl _ | apply Drawn0.step)⟩
    ·rw [if_neg c4] at H
     have c4b0 : decide (x13_1 < (l0.length : Int)) = false := decide_eq_false c4
     clear c4
     obtain rfl := Option.some.inj H
     go_wp2
     repeat (go_quiet (fail); try go_wp2)
     go_ret
     exact ⟨by first | rfl | (simp; done) | (simp [*]; done), by repeat (first | exact Drawn0.refl _ | apply Drawn0.step)⟩
 ·rw [if_neg c3] at H
  have c3b0 : ((l0.length : Int) == (l1.length : Int)) = false := beq_eq_false_iff_ne.mpr c3
  have c3b1 : ((l0.length : Int) != (l1.length : Int)) = true := bne_iff_ne.mpr c3
  have c3b2 : (l0.length == l1.length) = false := by first | simpa using c3 | (simp at c3 ⊢; omega)
  obtain rfl := Option.some.inj H
  go_enter Tryz.func97, Tryz.ntmps97
  go_wp2
  repeat (go_quiet (fail); try go_wp2)
  go_ret
  exact ⟨by first | rfl | (simp; done) | (simp [*]; done), by repeat (first | exact Drawn0.refl _ | apply Drawn0.step)⟩
def line_Same.f (k : Nat) (l0 : List (S40)) (l1 : List (S40)) : Option (Bool) := (cell_Cell_97.f k l0 l1).bind fun t424 => (some t424)
set_option maxHeartbeats 8000000 in
set_option maxRecDepth 100000 in
theorem line_Same.calls (k : Nat) (A0 : Option Addr) (c0 : Nat) (l0 : List (S40)) (A1 : Option Addr) (c1 : Nat) (l1 : List (S40)) (r : Bool) (w : World) (hr0 : Kd.C k40 w A0 l0.length l0) (hc0 : l0.length ≤ c0) (hr1 : Kd.C k40 w A1 l1.length l1) (hc1 : l1.length ≤ c1) (h : line_Same.f k l0 l1 = some r) :
 Calls Tryz.prog 77 #[.slice A0 l0.length c0, .slice A1 l1.length c1] w fun e w' => e = .returned (.bool r) ∧ Drawn0 w w' := by
 have HR0 := aS hr0
 have HC0 := aS hc0
 clear hr0 hc0
 have HR1 := aS hr1
 have HC1 := aS hc1
 clear hr1 hc1
 have H : ((cell_Cell_97.f k l0 l1).bind fun t424 => (some t424)) = some r := h
 clear h
 replace H := Option.bind_eq_some_iff.mp H
 obtain ⟨t424, A30, H⟩ := H
 try dsimp only at H
 have A3 := aS A30
 clear A30
 obtain rfl := Option.some.inj H
 go_enter Tryz.func77, Tryz.ntmps77
 go_wp2_with (first | (refine gL 97 7 Tryz.func97 #[.slice A0 l0.length c0, .slice A1 l1.length c1] ?_; (with_reducible refine (cell_Cell_97.calls k _ _ l0 _ _ l1 t424 _ ?side1 ?side2 ?side3 ?side4 A3.out).mono ?_); (case side1 => repeat (first | exact HR0.out | (with_reducible refine Kd.C_alloc ?_ _) | (with_reducible refine Kd.C_drewN ?_ _) | (with_reducible refine Kd.C_drew ?_))); (case side2 => exact HC0.out); (case side3 => repeat (first | exact HR1.out | (with_reducible refine Kd.C_alloc ?_ _) | (with_reducible refine Kd.C_drewN ?_ _) | (with_reducible refine Kd.C_drew ?_))); (case side4 => exact HC1.out); rintro e w' ⟨rfl, ⟨nd, rfl⟩⟩; refine ⟨_, rfl, ?_⟩))
 go_ret
 exact ⟨by first | rfl | (simp; done) | (simp [*]; done), by repeat (first | exact Drawn0.refl _ | apply Drawn0.step)⟩
def prolepsisref06_Same.l0 : Nat → List (S52) → List (S52) → Int → Option (Bool)
 | 0, _, _, _ => none
 | k + 1, x0, x1, x5 => if x5 < (x0.length : Int) then (if 0 ≤ x5 then (if x5 < (x1.length : Int) then (if (!(((rd_T52 x0 x5).f0) == ((rd_T52 x1 x5).f0)) || ((!(((rd_T52 x0 x5).f1.f0) == ((rd_T52 x1 x5).f1.f0)) || (!(((rd_T52 x0 x5).f1.f1) == ((rd_T52 x1 x5).f1.f1)))) || (!(((rd_T52 x0 x5).f2) == ((rd_T52 x1 x5).f2)) || ((!(((rd_T52 x0 x5).f3.f0) == ((rd_T52 x1 x5).f3.f0)) || (!(((rd_T52 x0 x5).f3.f1) == ((rd_T52 x1 x5).f3.f1)) || (!(((rd_T52 x0 x5).f3.f2) == ((rd_T52 x1 x5).f3.f2))))))))) = true then (some false) else (prolepsisref06_Same.l0 k x0 x1 (wrap64 (x5 + 1)))) else (none)) else (none)) else (some true)
def prolepsisref06_Same.f (k : Nat) (l0 : List (S52)) (l1 : List (S52)) : Option (Bool) := if (l0.length : Int) = (l1.length : Int) then (prolepsisref06_Same.l0 k l0 l1 0) else (some false)
set_option maxHeartbeats 8000000 in
set_option maxRecDepth 100000 in
theorem prolepsisref06_Same.calls (k : Nat) (A0 : Option Addr) (c0 : Nat) (l0 : List (S52)) (A1 : Option Addr) (c1 : Nat) (l1 : List (S52)) (r : Bool) (w : World) (hr0 : Kd.C k52 w A0 l0.length l0) (hc0 : l0.length ≤ c0) (hr1 : Kd.C k52 w A1 l1.length l1) (hc1 : l1.length ≤ c1) (h : prolepsisref06_Same.f k l0 l1 = some r) :
 Calls Tryz.prog 78 #[.slice A0 l0.length c0, .slice A1 l1.length c1] w fun e w' => e = .returned (.bool r) ∧ Drawn0 w w' := by
 have hu52 := Tryz.underlying52
 have HR0 := aS hr0
 have HC0 := aS hc0
 clear hr0 hc0
 have HR1 := aS hr1
 have HC1 := aS hc1
 clear hr1 hc1
 have H : (if (l0.length : Int) = (l1.length : Int) then (prolepsisref06_Same.l0 k l0 l1 0) else (some false)) = some r := h
 clear h
 by_cases c3 : (l0.length : Int) = (l1.length : Int)
 ·rw [if_pos c3] at H
  have c3b0 : ((l0.length : Int) == (l1.length : Int)) = true := beq_iff_eq.mpr c3
  have c3b1 : ((l0.length : Int) != (l1.length : Int)) = false := bne_eq_false_iff_eq.mpr c3
  have c3b2 : (l0.length == l1.length) = true := by first | simpa using c3 | (simp at c3 ⊢; omega)
  clear c3
  have H' := aS H
  clear H
  go_enter Tryz.func78, Tryz.ntmps78
  go_wp2
  repeat (go_quiet (fail); try go_wp2)
  go_loopg [5] k (fun kq v5 w' => ∃ (x5_1 : Int), v5 = .int .i64 x5_1 ∧ Aside0 (prolepsisref06_Same.l0 kq l0 l1 x5_1 = some r) ∧ Aside0 (kq ≤ k) ∧ Drawn0 w w')
  case atStart => exact ⟨(0), fS, H', ⟨Nat.le_refl _⟩, by repeat (first | exact Drawn0.refl _ | apply Drawn0.step)⟩
  case round =>
   clear H'
   try clear c1
   try clear p2
   try clear c3
   try clear c3b0
   try clear c3b1
   try clear c3b2
   obtain ⟨x5_1, rfl, HA, HK1, ⟨m1, rfl⟩⟩ := hrel
   cases gk with
   | zero => exact absurd HA.out (by simp [prolepsisref06_Same.l0])
   | succ k1 =>
    have H := HA.out
    clear HA
    simp only [prolepsisref06_Same.l0] at H
    by_cases c4 : x5_1 < (l0.length : Int)
    ·rw [if_pos c4] at H
     have c4b0 : decide (x5_1 < (l0.length : Int)) = true := decide_eq_true c4
     clear c4
     obtain ⟨c5, H⟩ := ifS H
     have c5b0 : decide (0 ≤ x5_1) = true := decide_eq_true c5
     clear c5
     obtain ⟨c6, H⟩ := ifS H
     have c6b0 : decide (x5_1 < (l1.length : Int)) = true := decide_eq_true c6
     clear c6
     by_cases c7 : (!(((rd_T52 l0 x5_1).f0) == ((rd_T52 l1 x5_1).f0)) || ((!(((rd_T52 l0 x5_1).f1.f0) == ((rd_T52 l1 x5_1).f1.f0)) || (!(((rd_T52 l0 x5_1).f1.f1) == ((rd_T52 l1 x5_1).f1.f1)))) || (!(((rd_T52 l0 x5_1).f2) == ((rd_T52 l1 x5_1).f2)) || ((!(((rd_T52 l0 x5_1).f3.f0) == ((rd_T52 l1 x5_1).f3.f0)) || (!(((rd_T52 l0 x5_1).f3.f1) == ((rd_T52 l1 x5_1).f3.f1)) || (!(((rd_T52 l0 x5_1).f3.f2) == ((rd_T52 l1 x5_1).f3.f2))))))))) = true
     ·rw [if_pos c7] at H
      have c7b0 : (!(((rd_T52 l0 x5_1).f0) == ((rd_T52 l1 x5_1).f0)) || ((!(((rd_T52 l0 x5_1).f1.f0) == ((rd_T52 l1 x5_1).f1.f0)) || (!(((rd_T52 l0 x5_1).f1.f1) == ((rd_T52 l1 x5_1).f1.f1)))) || (!(((rd_T52 l0 x5_1).f2) == ((rd_T52 l1 x5_1).f2)) || ((!(((rd_T52 l0 x5_1).f3.f0) == ((rd_T52 l1 x5_1).f3.f0)) || (!(((rd_T52 l0 x5_1).f3.f1) == ((rd_T52 l1 x5_1).f3.f1)) || (!(((rd_T52 l0 x5_1).f3.f2) == ((rd_T52 l1 x5_1).f3.f2))))))))) = true := c7
      clear c7
      obtain rfl := Option.some.inj H
      have p425 : 0 ≤ (x5_1 : Int) := dA
      have q425 : x5_1 < (l0.length : Int) := dA
      obtain ⟨ad425, e425, hx425_0, hx425_1, hx425_2, hx425_3, hx425_4, hx425_5, hx425_6⟩ := at_T52 HR0.out x5_1 p425 q425
      cases e425
      replace p425 := eq_true p425
      replace q425 := eq_true q425
      have p426 : 0 ≤ (x5_1 : Int) := dA
      have q426 : x5_1 < (l1.length : Int) := dA
      obtain ⟨ad426, e426, hx426_0, hx426_1, hx426_2, hx426_3, hx426_4, hx426_5, hx426_6⟩ := at_T52 HR1.out x5_1 p426 q426
      cases e426
      replace p426 := eq_true p426
      replace q426 := eq_true q426
      go_wp2
      repeat (go_quiet (fail); try go_wp2)
      go_ret
      exact ⟨by first | rfl | (simp; done) | (simp [*]; done), by repeat (first | exact Drawn0.refl _ | apply Drawn0.step)⟩
     ·rw [if_neg c7] at H
      have c7b0 : (!(((rd_T52 l0 x5_1).f0) == ((rd_T52 l1 x5_1).f0)) || ((!(((rd_T52 l0 x5_1).f1.f0) == ((rd_T52 l1 x5_1).f1.f0)) || (!(((rd_T52 l0 x5_1).f1.f1) == ((rd_T52 l1 x5_1).f1.f1)))) || (!(((rd_T52 l0 x5_1).f2) == ((rd_T52 l1 x5_1).f2)) || ((!(((rd_T52 l0 x5_1).f3.f0) == ((rd_T52 l1 x5_1).f3.f0)) || (!(((rd_T52 l0 x5_1).f3.f1) == ((rd_T52 l1 x5_1).f3.f1)) || (!(((rd_T52 l0 x5_1).f3.f2) == ((rd_T52 l1 x5_1).f3.f2))))))))) = false := by simpa using c7
      clear c7
      have H' := aS H
      clear H
      have p425 : 0 ≤ (x5_1 : Int) := dA
      have q425 : x5_1 < (l0.length : Int) := dA
      obtain ⟨ad425, e425, hx425_0, hx425_1, hx425_2, hx425_3, hx425_4, hx425_5, hx425_6⟩ := at_T52 HR0.out x5_1 p425 q425
      cases e425
      replace p425 := eq_true p425
      replace q425 := eq_true q425
      have p426 : 0 ≤ (x5_1 : Int) := dA
      have q426 : x5_1 < (l1.length : Int) := dA
      obtain ⟨ad426, e426, hx426_0, hx426_1, hx426_2, hx426_3, hx426_4, hx426_5, hx426_6⟩ := at_T52 HR1.out x5_1 p426 q426
      cases e426
      replace p426 := eq_true p426
      replace q426 := eq_true q426
      go_wp2
      repeat (go_quiet (fail); try go_wp2)
      go_roundg k1
      case measure => have := HK1.out; omega
      case rel => exact ⟨(wrap64 (x5_1 + 1)), fS, H', ⟨by have := HK1.out; omega⟩, by repeat (first | exact Drawn0.refl _ | apply Drawn0.step)⟩
    ·rw [if_neg c4] at H
     have c4b0 : decide (x5_1 < (l0.length : Int)) = false := decide_eq_false c4
     clear c4
     obtain rfl := Option.some.inj H
     go_wp2
     repeat (go_quiet (fail); try go_wp2)
     go_ret
     exact ⟨by first | rfl | (simp; done) | (simp [*]; done), by repeat (first | exact Drawn0.refl _ | apply Drawn0.step)⟩
 ·rw [if_neg c3] at H
  have c3b0 : ((l0.length : Int) == (l1.length : Int)) = false := beq_eq_false_iff_ne.mpr c3
  have c3b1 : ((l0.length : Int) != (l1.length : Int)) = true := bne_iff_ne.mpr c3
  have c3b2 : (l0.length == l1.length) = false := by first | simpa using c3 | (simp at c3 ⊢; omega)
  obtain rfl := Option.some.inj H
  go_enter Tryz.func78, Tryz.ntmps78
  go_wp2
  repeat (go_quiet (fail); try go_wp2)
  go_ret
  exact ⟨by first | rfl | (simp; done) | (simp [*]; done), by repeat (first | exact Drawn0.refl _ | apply Drawn0.step)⟩
end Go.Proofs.YtblcmcdifgclcaaGreat.PGridPlays
