/- GridApart: what its proof leads to. No condition. -/
import Derived.Test.YtblcmcdifgclcaaG8qGridApart
import Derived.Test.YtblcmcdifgclcaaG12qGridApart
import Derived.Test.YtblcmcdifgclcaaG15qGridApart
import Derived.Test.YtblcmcdifgclcaaG4qGridApart
namespace Go.Proofs.Ytblcmcdifgclcaa.PGridSame
open Go.RowKit Go.Proofs.YtblcmcdifgclcaaW.PrintWords Go.Proofs.YtblcmcdifgclcaaW.PrintLast Go.Proofs.YtblcmcdifgclcaaW.PrintMore
attribute [local go_sem] isSome_setCell max2_int min2_int max_two min_two
set_option linter.unusedVariables false
set_option linter.unusedSimpArgs false
attribute [local go_sem high] eqA32
def prolepsisref06_Fit.l0 : Nat → List (S32) → Int → List (S32) → Int → Option ((List (S32)))
 | 0, _, _, _, _ => none
 | k + 1, x0, x1, x5, x6 => (prolepsisref06_length.f x1).bind fun t406 => (if x6 < t406 then ((prolepsisref05_Blank.f 0 0 0).bind fun bt407 => (if x6 < (x0.length : Int) then (if 0 ≤ x6 then (if x5.length < 4398046511104 then (prolepsisref06_Fit.l0 k x0 x1 (x5 ++ [(⟨(rd_T32 x0 x6).f0, (⟨(rd_T32 x0 x6).f1.f0, (rd_T32 x0 x6).f1.f1⟩ : S29), (rd_T32 x0 x6).f2, (⟨(rd_T32 x0 x6).f3.f0, (rd_T32 x0 x6).f3.f1, (rd_T32 x0 x6).f3.f2⟩ : S30)⟩ : S32)]) (wrap64 (x6 + 1))) else (none)) else (none)) else (if x5.length < 4398046511104 then (prolepsisref06_Fit.l0 k x0 x1 (x5 ++ [(⟨bt407.1, (⟨bt407.2.1, bt407.2.2.1⟩ : S29), bt407.2.2.2.1, (⟨bt407.2.2.2.2.1, bt407.2.2.2.2.2.1, bt407.2.2.2.2.2.2⟩ : S30)⟩ : S32)]) (wrap64 (x6 + 1))) else (none)))) else ((prolepsisref06_Mend.f k x5).bind fun t422 => (some t422)))
def prolepsisref06_Fit.f (k : Nat) (l0 : List (S32)) (a1 : Int) : Option ((List (S32))) := prolepsisref06_Fit.l0 k l0 a1 ([] : List (S32)) 0
set_option maxHeartbeats 8000000 in
set_option maxRecDepth 100000 in
theorem prolepsisref06_Fit.calls (k : Nat) (A0 : Option Addr) (c0 : Nat) (l0 : List (S32)) (a1 : Int) (r : List (S32)) (w : World) (hr0 : Kd.C k32 w A0 l0.length l0) (hc0 : l0.length ≤ c0) (h : prolepsisref06_Fit.f k l0 a1 = some r) :
 Calls Try.prog 48 #[.slice A0 l0.length c0, .int .i64 a1] w fun e w' => ∃ v0_ : Value, e = .returned (v0_) ∧ Kd.R k32 32 w' w.heap.size (fun _ => True) v0_ r ∧ Below w.heap.size w w' := by
 have hu30 := Try.underlying30
 have hu32 := Try.underlying32
 have HR0 := aS hr0
 have HC0 := aS hc0
 clear hr0 hc0
 have HB := aS (Below.refl w.heap.size w)
 have H : (prolepsisref06_Fit.l0 k l0 a1 ([] : List (S32)) 0) = some r := h
 clear h
 have H' := aS H
 clear H
 go_enter Try.func48, Try.ntmps48
 go_wp2
 go_loopg [5, 6] k (fun kq v5 v6 w' => ∃ (x5_1 : List (S32)) (x6_1 : Int), v6 = .int .i64 x6_1 ∧ Aside0 (prolepsisref06_Fit.l0 kq l0 a1 x5_1 x6_1 = some r) ∧ Aside0 (kq ≤ k) ∧ Aside0 (Kd.R k32 32 w' w.heap.size (fun _ => True) v5 x5_1) ∧ Aside0 (Below w.heap.size w w'))
 case atStart => exact ⟨(([] : List (S32))), (0), fS, H', ⟨Nat.le_refl _⟩, ⟨by first | exact Kd.R_nil _ _ _ _ _ | exact Kd.N_nil _ _ _ _ _ | exact Kd.V_nil _ _ _ _ _ | exact Kd.Q_nil _ _ _ _ _ | exact Kd.S_nil _ _ _ _ _⟩, ⟨bB⟩⟩
 case round =>
  clear H'
  try clear p2
  obtain ⟨x5_1, x6_1, rfl, HA, HK1, HO_5, HB⟩ := hrel
  cases gk with
  | zero => exact absurd HA.out (by simp [prolepsisref06_Fit.l0])
  | succ k1 =>
   have H := HA.out
   clear HA
   simp only [prolepsisref06_Fit.l0] at H
   replace H := Option.bind_eq_some_iff.mp H
   obtain ⟨t406, A30, H⟩ := H
   try dsimp only at H
   have A3 := aS A30
   clear A30
   by_cases c4 : x6_1 < t406
   ·rw [if_pos c4] at H
    have c4b0 : decide (x6_1 < t406) = true := decide_eq_true c4
    clear c4
    replace H := Option.bind_eq_some_iff.mp H
    obtain ⟨⟨t407, t408, t409, t410, t411, t412, t413⟩, A50, H⟩ := H
    try dsimp only at H
    have A5 := aS A50
    clear A50
    by_cases c6 : x6_1 < (l0.length : Int)
    ·rw [if_pos c6] at H
     have c6b0 : decide (x6_1 < (l0.length : Int)) = true := decide_eq_true c6
     clear c6
     obtain ⟨c7, H⟩ := ifS H
     have c7b0 : decide (0 ≤ x6_1) = true := decide_eq_true c7
     clear c7
     obtain ⟨c8, H⟩ := ifS H
     have LMc8 := aS c8
     clear c8
     obtain ⟨y416, hy416⟩ : ∃ y_ : List (S32), y_ = (x5_1 ++ [(⟨(rd_T32 l0 x6_1).f0, (⟨(rd_T32 l0 x6_1).f1.f0, (rd_T32 l0 x6_1).f1.f1⟩ : S29), (rd_T32 l0 x6_1).f2, (⟨(rd_T32 l0 x6_1).f3.f0, (rd_T32 l0 x6_1).f3.f1, (rd_T32 l0 x6_1).f3.f2⟩ : S30)⟩ : S32)]) := ⟨_, rfl⟩
     replace H : (prolepsisref06_Fit.l0 k1 l0 a1 y416 (wrap64 (x6_1 + 1))) = some r := rq hy416 H
     have Ny416 := aS hy416
     clear hy416
     have H' := aS H
     clear H
     go_wp2_with (first | (refine gL 100 10 Try.func100 #[.int .i64 a1] ?_; (with_reducible refine (prolepsisref06_length.calls a1 t406 _ A3.out).mono ?_); rintro e w' ⟨rfl, ⟨nd, rfl⟩⟩; refine ⟨_, rfl, ?_⟩; (try (rw [drewN_self wr]; generalize hq_ : World.drewN wr _ = wr; have n0_ : Aside0 (Kd.R k32 32 wr w.heap.size (fun _ => True) u5 x5_1) := ⟨by rw [← hq_]; exact (rr HO_5)⟩; have n1_ : Aside0 (Below w.heap.size w wr) := ⟨by rw [← hq_]; exact bB⟩; clear HO_5 HB hq_; have HO_5 := n0_; have HB := n1_; clear n0_ n1_))) | (refine gL 22 15 Try.func22 #[.agg #[.int .u8 0, .int .u8 0, .int .u8 0]] ?_; (with_reducible refine (prolepsisref05_Blank.calls 0 0 0 t407 t408 t409 t410 t411 t412 t413 _ A5.out).mono ?_); rintro e w9 ⟨rfl, hb⟩; refine ⟨_, rfl, ?_⟩; replace HO_5 := aS (Kd.R_below (rr HO_5) hb); replace HB := aS (below_step bB hb); (try clear hb); (try clear hb2); (try clear hk); (try clear hi)) | (refine bx 7 #[.int .i64 0, .int .i64 0, .int .i64 0, .int .u8 0, .int .u8 0, .int .u8 0, .int .u8 0] 32 ?_; intro gb414 hg w10 hbox hb; replace HO_5 := aS (Kd.R_below (Kd.R_elderB (rr HO_5) gb414 (Nat.le_of_eq hg.symm)) hb); have BK414 := aS (hbox); have GW414 := aS (gw HB hg); have GE414 := aS (gw HB hg); replace HB := aS (below_step bB hb); clear hb hbox hg; have hz11 := cel7 BK414.out; have p415 : 0 ≤ (x6_1 : Int) := dA; have q415 : x6_1 < (l0.length : Int) := dA; obtain ⟨ad415, e415, hx415_0, hx415_1, hx415_2, hx415_3, hx415_4, hx415_5, hx415_6⟩ := at_T32 HR0.out x6_1 p415 q415; cases e415; have hn415_0 : ad415.block ≠ gb414 := Nat.ne_of_lt (Nat.lt_of_lt_of_le (by have := World.block_lt_of_cell? _ _ hx415_0; first | rwa [add_block] at this | exact this) GW414.out); have hn415_1 : ad415.block ≠ gb414 := Nat.ne_of_lt (Nat.lt_of_lt_of_le (by have := World.block_lt_of_cell? _ _ hx415_0; first | rwa [add_block] at this | exact this) GW414.out); have hn415_2 : ad415.block ≠ gb414 := Nat.ne_of_lt (Nat.lt_of_lt_of_le (by have := World.block_lt_of_cell? _ _ hx415_0; first | rwa [add_block] at this | exact this) GW414.out); have hn415_3 : ad415.block ≠ gb414 := Nat.ne_of_lt (Nat.lt_of_lt_of_le (by have := World.block_lt_of_cell? _ _ hx415_0; first | rwa [add_block] at this | exact this) GW414.out); have hn415_4 : ad415.block ≠ gb414 := Nat.ne_of_lt (Nat.lt_of_lt_of_le (by have := World.block_lt_of_cell? _ _ hx415_0; first | rwa [add_block] at this | exact this) GW414.out); have hn415_5 : ad415.block ≠ gb414 := Nat.ne_of_lt (Nat.lt_of_lt_of_le (by have := World.block_lt_of_cell? _ _ hx415_0; first | rwa [add_block] at this | exact this) GW414.out); have hn415_6 : ad415.block ≠ gb414 := Nat.ne_of_lt (Nat.lt_of_lt_of_le (by have := World.block_lt_of_cell? _ _ hx415_0; first | rwa [add_block] at this | exact this) GW414.out); replace hx415_0 := xc HB hx415_0; replace hx415_1 := xc HB hx415_1; replace hx415_2 := xc HB hx415_2; replace hx415_3 := xc HB hx415_3; replace hx415_4 := xc HB hx415_4; replace hx415_5 := xc HB hx415_5; replace hx415_6 := xc HB hx415_6; replace hx415_0 := (cell_far (p := ⟨gb414, 0, none⟩) (by first | (rw [add_block]; exact hn415_0) | (show (Addr.add _ _).block ≠ _; rw [add_block]; exact hn415_0) | exact hn415_0) (.int .i64 t407)).trans hx415_0; replace hx415_1 := (cell_far (p := ⟨gb414, 0, none⟩) (by first | (rw [add_block]; exact hn415_0) | (show (Addr.add _ _).block ≠ _; rw [add_block]; exact hn415_0) | exact hn415_0) (.int .i64 t407)).trans hx415_1; replace hx415_2 := (cell_far (p := ⟨gb414, 0, none⟩) (by first | (rw [add_block]; exact hn415_0) | (show (Addr.add _ _).block ≠ _; rw [add_block]; exact hn415_0) | exact hn415_0) (.int .i64 t407)).trans hx415_2; replace hx415_3 := (cell_far (p := ⟨gb414, 0, none⟩) (by first | (rw [add_block]; exact hn415_0) | (show (Addr.add _ _).block ≠ _; rw [add_block]; exact hn415_0) | exact hn415_0) (.int .i64 t407)).trans hx415_3; replace hx415_4 := (cell_far (p := ⟨gb414, 0, none⟩) (by first | (rw [add_block]; exact hn415_0) | (show (Addr.add _ _).block ≠ _; rw [add_block]; exact hn415_0) | exact hn415_0) (.int .i64 t407)).trans hx415_4; replace hx415_5 := (cell_far (p := ⟨gb414, 0, none⟩) (by first | (rw [add_block]; exact hn415_0) | (show (Addr.add _ _).block ≠ _; rw [add_block]; exact hn415_0) | exact hn415_0) (.int .i64 t407)).trans hx415_5; replace hx415_6 := (cell_far (p := ⟨gb414, 0, none⟩) (by first | (rw [add_block]; exact hn415_0) | (show (Addr.add _ _).block ≠ _; rw [add_block]; exact hn415_0) | exact hn415_0) (.int .i64 t407)).trans hx415_6; replace hx415_0 := (cell_far (p := ⟨gb414, 1, none⟩) (by first | (rw [add_block]; exact hn415_1) | (show (Addr.add _ _).block ≠ _; rw [add_block]; exact hn415_1) | exact hn415_1) (.int .i64 t408)).trans hx415_0; replace hx415_1 := (cell_far (p := ⟨gb414, 1, none⟩) (by first | (rw [add_block]; exact hn415_1) | (show (Addr.add _ _).block ≠ _; rw [add_block]; exact hn415_1) | exact hn415_1) (.int .i64 t408)).trans hx415_1; replace hx415_2 := (cell_far (p := ⟨gb414, 1, none⟩) (by first | (rw [add_block]; exact hn415_1) | (show (Addr.add _ _).block ≠ _; rw [add_block]; exact hn415_1) | exact hn415_1) (.int .i64 t408)).trans hx415_2; replace hx415_3 := (cell_far (p := ⟨gb414, 1, none⟩) (by first | (rw [add_block]; exact hn415_1) | (show (Addr.add _ _).block ≠ _; rw [add_block]; exact hn415_1) | exact hn415_1) (.int .i64 t408)).trans hx415_3; replace hx415_4 := (cell_far (p := ⟨gb414, 1, none⟩) (by first | (rw [add_block]; exact hn415_1) | (show (Addr.add _ _).block ≠ _; rw [add_block]; exact hn415_1) | exact hn415_1) (.int .i64 t408)).trans hx415_4; replace hx415_5 := (cell_far (p := ⟨gb414, 1, none⟩) (by first | (rw [add_block]; exact hn415_1) | (show (Addr.add _ _).block ≠ _; rw [add_block]; exact hn415_1) | exact hn415_1) (.int .i64 t408)).trans hx415_5; replace hx415_6 := (cell_far (p := ⟨gb414, 1, none⟩) (by first | (rw [add_block]; exact hn415_1) | (show (Addr.add _ _).block ≠ _; rw [add_block]; exact hn415_1) | exact hn415_1) (.int .i64 t408)).trans hx415_6; replace hx415_0 := (cell_far (p := ⟨gb414, 2, none⟩) (by first | (rw [add_block]; exact hn415_2) | (show (Addr.add _ _).block ≠ _; rw [add_block]; exact hn415_2) | exact hn415_2) (.int .i64 t409)).trans hx415_0; replace hx415_1 := (cell_far (p := ⟨gb414, 2, none⟩) (by first | (rw [add_block]; exact hn415_2) | (show (Addr.add _ _).block ≠ _; rw [add_block]; exact hn415_2) | exact hn415_2) (.int .i64 t409)).trans hx415_1; replace hx415_2 := (cell_far (p := ⟨gb414, 2, none⟩) (by first | (rw [add_block]; exact hn415_2) | (show (Addr.add _ _).block ≠ _; rw [add_block]; exact hn415_2) | exact hn415_2) (.int .i64 t409)).trans hx415_2; replace hx415_3 := (cell_far (p := ⟨gb414, 2, none⟩) (by first | (rw [add_block]; exact hn415_2) | (show (Addr.add _ _).block ≠ _; rw [add_block]; exact hn415_2) | exact hn415_2) (.int .i64 t409)).trans hx415_3; replace hx415_4 := (cell_far (p := ⟨gb414, 2, none⟩) (by first | (rw [add_block]; exact hn415_2) | (show (Addr.add _ _).block ≠ _; rw [add_block]; exact hn415_2) | exact hn415_2) (.int .i64 t409)).trans hx415_4; replace hx415_5 := (cell_far (p := ⟨gb414, 2, none⟩) (by first | (rw [add_block]; exact hn415_2) | (show (Addr.add _ _).block ≠ _; rw [add_block]; exact hn415_2) | exact hn415_2) (.int .i64 t409)).trans hx415_5; replace hx415_6 := (cell_far (p := ⟨gb414, 2, none⟩) (by first | (rw [add_block]; exact hn415_2) | (show (Addr.add _ _).block ≠ _; rw [add_block]; exact hn415_2) | exact hn415_2) (.int .i64 t409)).trans hx415_6; replace hx415_0 := (cell_far (p := ⟨gb414, 3, none⟩) (by first | (rw [add_block]; exact hn415_3) | (show (Addr.add _ _).block ≠ _; rw [add_block]; exact hn415_3) | exact hn415_3) (.int .u8 t410)).trans hx415_0; replace hx415_1 := (cell_far (p := ⟨gb414, 3, none⟩) (by first | (rw [add_block]; exact hn415_3) | (show (Addr.add _ _).block ≠ _; rw [add_block]; exact hn415_3) | exact hn415_3) (.int .u8 t410)).trans hx415_1; replace hx415_2 := (cell_far (p := ⟨gb414, 3, none⟩) (by first | (rw [add_block]; exact hn415_3) | (show (Addr.add _ _).block ≠ _; rw [add_block]; exact hn415_3) | exact hn415_3) (.int .u8 t410)).trans hx415_2; replace hx415_3 := (cell_far (p := ⟨gb414, 3, none⟩) (by first | (rw [add_block]; exact hn415_3) | (show (Addr.add _ _).block ≠ _; rw [add_block]; exact hn415_3) | exact hn415_3) (.int .u8 t410)).trans hx415_3; replace hx415_4 := (cell_far (p := ⟨gb414, 3, none⟩) (by first | (rw [add_block]; exact hn415_3) | (show (Addr.add _ _).block ≠ _; rw [add_block]; exact hn415_3) | exact hn415_3) (.int .u8 t410)).trans hx415_4; replace hx415_5 := (cell_far (p := ⟨gb414, 3, none⟩) (by first | (rw [add_block]; exact hn415_3) | (show (Addr.add _ _).block ≠ _; rw [add_block]; exact hn415_3) | exact hn415_3) (.int .u8 t410)).trans hx415_5; replace hx415_6 := (cell_far (p := ⟨gb414, 3, none⟩) (by first | (rw [add_block]; exact hn415_3) | (show (Addr.add _ _).block ≠ _; rw [add_block]; exact hn415_3) | exact hn415_3) (.int .u8 t410)).trans hx415_6; replace hx415_0 := (cell_far (p := ⟨gb414, 4, none⟩) (by first | (rw [add_block]; exact hn415_4) | (show (Addr.add _ _).block ≠ _; rw [add_block]; exact hn415_4) | exact hn415_4) (.int .u8 t411)).trans hx415_0; replace hx415_1 := (cell_far (p := ⟨gb414, 4, none⟩) (by first | (rw [add_block]; exact hn415_4) | (show (Addr.add _ _).block ≠ _; rw [add_block]; exact hn415_4) | exact hn415_4) (.int .u8 t411)).trans hx415_1; replace hx415_2 := (cell_far (p := ⟨gb414, 4, none⟩) (by first | (rw [add_block]; exact hn415_4) | (show (Addr.add _ _).block ≠ _; rw [add_block]; exact hn415_4) | exact hn415_4) (.int .u8 t411)).trans hx415_2; replace hx415_3 := (cell_far (p := ⟨gb414, 4, none⟩) (by first | (rw [add_block]; exact hn415_4) | (show (Addr.add _ _).block ≠ _; rw [add_block]; exact hn415_4) | exact hn415_4) (.int .u8 t411)).trans hx415_3; replace hx415_4 := (cell_far (p := ⟨gb414, 4, none⟩) (by first | (rw [add_block]; exact hn415_4) | (show (Addr.add _ _).block ≠ _; rw [add_block]; exact hn415_4) | exact hn415_4) (.int .u8 t411)).trans hx415_4; replace hx415_5 := (cell_far (p := ⟨gb414, 4, none⟩) (by first | (rw [add_block]; exact hn415_4) | (show (Addr.add _ _).block ≠ _; rw [add_block]; exact hn415_4) | exact hn415_4) (.int .u8 t411)).trans hx415_5; replace hx415_6 := (cell_far (p := ⟨gb414, 4, none⟩) (by first | (rw [add_block]; exact hn415_4) | (show (Addr.add _ _).block ≠ _; rw [add_block]; exact hn415_4) | exact hn415_4) (.int .u8 t411)).trans hx415_6; replace hx415_0 := (cell_far (p := ⟨gb414, 5, none⟩) (by first | (rw [add_block]; exact hn415_5) | (show (Addr.add _ _).block ≠ _; rw [add_block]; exact hn415_5) | exact hn415_5) (.int .u8 t412)).trans hx415_0; replace hx415_1 := (cell_far (p := ⟨gb414, 5, none⟩) (by first | (rw [add_block]; exact hn415_5) | (show (Addr.add _ _).block ≠ _; rw [add_block]; exact hn415_5) | exact hn415_5) (.int .u8 t412)).trans hx415_1; replace hx415_2 := (cell_far (p := ⟨gb414, 5, none⟩) (by first | (rw [add_block]; exact hn415_5) | (show (Addr.add _ _).block ≠ _; rw [add_block]; exact hn415_5) | exact hn415_5) (.int .u8 t412)).trans hx415_2; replace hx415_3 := (cell_far (p := ⟨gb414, 5, none⟩) (by first | (rw [add_block]; exact hn415_5) | (show (Addr.add _ _).block ≠ _; rw [add_block]; exact hn415_5) | exact hn415_5) (.int .u8 t412)).trans hx415_3; replace hx415_4 := (cell_far (p := ⟨gb414, 5, none⟩) (by first | (rw [add_block]; exact hn415_5) | (show (Addr.add _ _).block ≠ _; rw [add_block]; exact hn415_5) | exact hn415_5) (.int .u8 t412)).trans hx415_4; replace hx415_5 := (cell_far (p := ⟨gb414, 5, none⟩) (by first | (rw [add_block]; exact hn415_5) | (show (Addr.add _ _).block ≠ _; rw [add_block]; exact hn415_5) | exact hn415_5) (.int .u8 t412)).trans hx415_5; replace hx415_6 := (cell_far (p := ⟨gb414, 5, none⟩) (by first | (rw [add_block]; exact hn415_5) | (show (Addr.add _ _).block ≠ _; rw [add_block]; exact hn415_5) | exact hn415_5) (.int .u8 t412)).trans hx415_6; replace hx415_0 := (cell_far (p := ⟨gb414, 6, none⟩) (by first | (rw [add_block]; exact hn415_6) | (show (Addr.add _ _).block ≠ _; rw [add_block]; exact hn415_6) | exact hn415_6) (.int .u8 t413)).trans hx415_0; replace hx415_1 := (cell_far (p := ⟨gb414, 6, none⟩) (by first | (rw [add_block]; exact hn415_6) | (show (Addr.add _ _).block ≠ _; rw [add_block]; exact hn415_6) | exact hn415_6) (.int .u8 t413)).trans hx415_1; replace hx415_2 := (cell_far (p := ⟨gb414, 6, none⟩) (by first | (rw [add_block]; exact hn415_6) | (show (Addr.add _ _).block ≠ _; rw [add_block]; exact hn415_6) | exact hn415_6) (.int .u8 t413)).trans hx415_2; replace hx415_3 := (cell_far (p := ⟨gb414, 6, none⟩) (by first | (rw [add_block]; exact hn415_6) | (show (Addr.add _ _).block ≠ _; rw [add_block]; exact hn415_6) | exact hn415_6) (.int .u8 t413)).trans hx415_3; replace hx415_4 := (cell_far (p := ⟨gb414, 6, none⟩) (by first | (rw [add_block]; exact hn415_6) | (show (Addr.add _ _).block ≠ _; rw [add_block]; exact hn415_6) | exact hn415_6) (.int .u8 t413)).trans hx415_4; replace hx415_5 := (cell_far (p := ⟨gb414, 6, none⟩) (by first | (rw [add_block]; exact hn415_6) | (show (Addr.add _ _).block ≠ _; rw [add_block]; exact hn415_6) | exact hn415_6) (.int .u8 t413)).trans hx415_5; replace hx415_6 := (cell_far (p := ⟨gb414, 6, none⟩) (by first | (rw [add_block]; exact hn415_6) | (show (Addr.add _ _).block ≠ _; rw [add_block]; exact hn415_6) | exact hn415_6) (.int .u8 t413)).trans hx415_6; clear hn415_0; clear hn415_1; clear hn415_2; clear hn415_3; clear hn415_4; clear hn415_5; clear hn415_6; replace p415 := eq_true p415; replace q415 := eq_true q415) | ((with_reducible refine gate_builtin (b := .append) (xs := #[.tmp 24, .tmp 26]) rfl ?_); at_builtin; refine Kd.R_append k32 (w0 := w) w.heap.size rfl (.tmp 24) (.tmp 26) 67 32 (.agg #[(.int .i64 0), (.int .i64 0), (.int .i64 0), (.int .u8 0), (.int .u8 0), (.int .u8 0), (.int .u8 0)]) 32 rfl Try.underlying67 info32 rfl (by decide) (by omega) u5 x5_1 (⟨(rd_T32 l0 x6_1).f0, (⟨(rd_T32 l0 x6_1).f1.f0, (rd_T32 l0 x6_1).f1.f1⟩ : S29), (rd_T32 l0 x6_1).f2, (⟨(rd_T32 l0 x6_1).f3.f0, (rd_T32 l0 x6_1).f3.f1, (rd_T32 l0 x6_1).f3.f2⟩ : S30)⟩ : S32) [.int .i64 ((rd_T32 l0 x6_1).f0), .int .i64 ((rd_T32 l0 x6_1).f1.f0), .int .i64 ((rd_T32 l0 x6_1).f1.f1), .int .u8 ((rd_T32 l0 x6_1).f2), .int .u8 ((rd_T32 l0 x6_1).f3.f0), .int .u8 ((rd_T32 l0 x6_1).f3.f1), .int .u8 ((rd_T32 l0 x6_1).f3.f2)] (fun k_ => k_ ≠ gb414) (fun _ => False) rfl (by first | (go_simp; done) | (go_simp; rfl)) ?aP (fun _ hk => hk.elim) ?aF ?aO ?aB ?aS ?aL ?_; (case aP => exact k32_mkM _ _ _ (⟨(rd_T32 l0 x6_1).f0, (⟨(rd_T32 l0 x6_1).f1.f0, (rd_T32 l0 x6_1).f1.f1⟩ : S29), (rd_T32 l0 x6_1).f2, (⟨(rd_T32 l0 x6_1).f3.f0, (rd_T32 l0 x6_1).f3.f1, (rd_T32 l0 x6_1).f3.f2⟩ : S30)⟩ : S32)); (case aB => exact bS); (case aF => exact (fun k_ hk => Kd.freshB (g := gb414) (o := .cells #[.int .i64 ((rd_T32 l0 x6_1).f0), .int .i64 ((rd_T32 l0 x6_1).f1.f0), .int .i64 ((rd_T32 l0 x6_1).f1.f1), .int .u8 ((rd_T32 l0 x6_1).f2), .int .u8 ((rd_T32 l0 x6_1).f3.f0), .int .u8 ((rd_T32 l0 x6_1).f3.f1), .int .u8 ((rd_T32 l0 x6_1).f3.f2)] 32 (0, 0)) (kp BK414) k_ hk)); (case aO => exact (by (with_reducible repeat (first | apply rA | apply rN | apply rD)); exact Kd.R_mono (rK (Kd.R_mono HO_5.out (fun k_ hk => (⟨hk, hk.2⟩ : _ ∧ k_ ≠ gb414)))) (fun _ hk => hk.1.2))); (case aS => exact (below_size bS)); (case aL => have := LMc8.out; omega); intro v417 w12 ho hb hg hat; rw [← Ny416.out] at ho; replace BK414 := aS (blk_grown (g := gb414) (o := .cells #[.int .i64 ((rd_T32 l0 x6_1).f0), .int .i64 ((rd_T32 l0 x6_1).f1.f0), .int .i64 ((rd_T32 l0 x6_1).f1.f1), .int .u8 ((rd_T32 l0 x6_1).f2), .int .u8 ((rd_T32 l0 x6_1).f3.f0), .int .u8 ((rd_T32 l0 x6_1).f3.f1), .int .u8 ((rd_T32 l0 x6_1).f3.f2)] 32 (0, 0)) (kp BK414) hg (Kd.R_away HO_5.out (fun _ hk => hk.2))); replace HB := aS (hb); have HO418 := aS (ho); clear HO_5; clear ho hb hg hat))
     go_roundg k1
     case measure => have := HK1.out; omega
     case rel => exact ⟨(y416), (wrap64 (x6_1 + 1)), fS, H', ⟨by have := HK1.out; omega⟩, ⟨by (with_reducible repeat (first | apply rA | apply rN | apply rD)); exact Kd.R_mono HO418.out (fun _ hk => trivial)⟩, ⟨bS⟩⟩
    ·rw [if_neg c6] at H
     have c6b0 : decide (x6_1 < (l0.length : Int)) = false := decide_eq_false c6
     clear c6
     obtain ⟨c13, H⟩ := ifS H
     have LMc13 := aS c13
     clear c13
     obtain ⟨y419, hy419⟩ : ∃ y_ : List (S32), y_ = (x5_1 ++ [(⟨t407, (⟨t408, t409⟩ : S29), t410, (⟨t411, t412, t413⟩ : S30)⟩ : S32)]) := ⟨_, rfl⟩
     replace H : (prolepsisref06_Fit.l0 k1 l0 a1 y419 (wrap64 (x6_1 + 1))) = some r := rq hy419 H
     have Ny419 := aS hy419
     clear hy419
     have H' := aS H
     clear H
     go_wp2_with (first | (refine gL 100 10 Try.func100 #[.int .i64 a1] ?_; (with_reducible refine (prolepsisref06_length.calls a1 t406 _ A3.out).mono ?_); rintro e w' ⟨rfl, ⟨nd, rfl⟩⟩; refine ⟨_, rfl, ?_⟩; (try (rw [drewN_self wr]; generalize hq_ : World.drewN wr _ = wr; have n0_ : Aside0 (Kd.R k32 32 wr w.heap.size (fun _ => True) u5 x5_1) := ⟨by rw [← hq_]; exact (rr HO_5)⟩; have n1_ : Aside0 (Below w.heap.size w wr) := ⟨by rw [← hq_]; exact bB⟩; clear HO_5 HB hq_; have HO_5 := n0_; have HB := n1_; clear n0_ n1_))) | (refine gL 22 15 Try.func22 #[.agg #[.int .u8 0, .int .u8 0, .int .u8 0]] ?_; (with_reducible refine (prolepsisref05_Blank.calls 0 0 0 t407 t408 t409 t410 t411 t412 t413 _ A5.out).mono ?_); rintro e w14 ⟨rfl, hb⟩; refine ⟨_, rfl, ?_⟩; replace HO_5 := aS (Kd.R_below (rr HO_5) hb); replace HB := aS (below_step bB hb); (try clear hb); (try clear hb2); (try clear hk); (try clear hi)) | (refine bx 7 #[.int .i64 0, .int .i64 0, .int .i64 0, .int .u8 0, .int .u8 0, .int .u8 0, .int .u8 0] 32 ?_; intro gb414 hg w15 hbox hb; replace HO_5 := aS (Kd.R_below (Kd.R_elderB (rr HO_5) gb414 (Nat.le_of_eq hg.symm)) hb); have BK414 := aS (hbox); have GW414 := aS (gw HB hg); have GE414 := aS (gw HB hg); replace HB := aS (below_step bB hb); clear hb hbox hg; have hz16 := cel7 BK414.out) | ((with_reducible refine gate_builtin (b := .append) (xs := #[.tmp 24, .tmp 26]) rfl ?_); at_builtin; refine Kd.R_append k32 (w0 := w) w.heap.size rfl (.tmp 24) (.tmp 26) 67 32 (.agg #[(.int .i64 0), (.int .i64 0), (.int .i64 0), (.int .u8 0), (.int .u8 0), (.int .u8 0), (.int .u8 0)]) 32 rfl Try.underlying67 info32 rfl (by decide) (by omega) u5 x5_1 (⟨t407, (⟨t408, t409⟩ : S29), t410, (⟨t411, t412, t413⟩ : S30)⟩ : S32) [.int .i64 t407, .int .i64 t408, .int .i64 t409, .int .u8 t410, .int .u8 t411, .int .u8 t412, .int .u8 t413] (fun k_ => k_ ≠ gb414) (fun _ => False) rfl (by first | (go_simp; done) | (go_simp; rfl)) ?aP (fun _ hk => hk.elim) ?aF ?aO ?aB ?aS ?aL ?_; (case aP => exact k32_mkM _ _ _ (⟨t407, (⟨t408, t409⟩ : S29), t410, (⟨t411, t412, t413⟩ : S30)⟩ : S32)); (case aB => exact bS); (case aF => exact (fun k_ hk => Kd.freshB (g := gb414) (o := .cells #[.int .i64 t407, .int .i64 t408, .int .i64 t409, .int .u8 t410, .int .u8 t411, .int .u8 t412, .int .u8 t413] 32 (0, 0)) (kp BK414) k_ hk)); (case aO => exact (by (with_reducible repeat (first | apply rA | apply rN | apply rD)); exact Kd.R_mono (rK (Kd.R_mono HO_5.out (fun k_ hk => (⟨hk, hk.2⟩ : _ ∧ k_ ≠ gb414)))) (fun _ hk => hk.1.2))); (case aS => exact (below_size bS)); (case aL => have := LMc13.out; omega); intro v420 w17 ho hb hg hat; rw [← Ny419.out] at ho; replace BK414 := aS (blk_grown (g := gb414) (o := .cells #[.int .i64 t407, .int .i64 t408, .int .i64 t409, .int .u8 t410, .int .u8 t411, .int .u8 t412, .int .u8 t413] 32 (0, 0)) (kp BK414) hg (Kd.R_away HO_5.out (fun _ hk => hk.2))); replace HB := aS (hb); have HO421 := aS (ho); clear HO_5; clear ho hb hg hat))
     go_roundg k1
     case measure => have := HK1.out; omega
     case rel => exact ⟨(y419), (wrap64 (x6_1 + 1)), fS, H', ⟨by have := HK1.out; omega⟩, ⟨by (with_reducible repeat (first | apply rA | apply rN | apply rD)); exact Kd.R_mono HO421.out (fun _ hk => trivial)⟩, ⟨bS⟩⟩
   ·rw [if_neg c4] at H
    have c4b0 : decide (x6_1 < t406) = false := decide_eq_false c4
    clear c4
    replace H := Option.bind_eq_some_iff.mp H
    obtain ⟨t422, A180, H⟩ := H
    try dsimp only at H
    have A18 := aS A180
    clear A180
    obtain rfl := Option.some.inj H
    go_wp2_with (first | (refine gL 100 10 Try.func100 #[.int .i64 a1] ?_; (with_reducible refine (prolepsisref06_length.calls a1 t406 _ A3.out).mono ?_); rintro e w' ⟨rfl, ⟨nd, rfl⟩⟩; refine ⟨_, rfl, ?_⟩; obtain ⟨Ao19, co19, eo19⟩ := Kd.R_slice HO_5.out; subst eo19) | (refine gL 50 29 Try.func50 #[.slice Ao19 x5_1.length co19] ?_; (with_reducible refine (prolepsisref06_Mend.calls k1 _ _ x5_1 t422 _ ?side1 ?side2 A18.out).mono ?_); (case side1 => exact rC (Kd.R_reads' HO_5.out)); (case side2 => exact (Kd.R_reads' HO_5.out).2.1); rintro e w20 ⟨v423, rfl, ho0, hb⟩; refine ⟨_, rfl, ?_⟩; have HO424 := aS (Kd.R_lower (Kd.R_new' ho0 (Kd.R_lt (rr HO_5))) (below_size bB)); replace HO_5 := aS (Kd.R_elder' (rr HO_5) (Kd.R_base ho0) hb); replace HB := aS (below_step bB hb); (try clear hb); (try clear hb2); (try clear hk); (try clear hi); (try clear ho0)))
    go_ret
    exact ⟨_, by first | rfl | (simp <;> rfl) | (simp [*] <;> rfl), by (with_reducible repeat (first | apply rA | apply rN | apply rD)); exact Kd.R_mono HO424.out (fun _ hk => trivial), bB⟩
def prolepsisref06_Same.l0 : Nat → List (S32) → List (S32) → Int → Option (Bool)
 | 0, _, _, _ => none
 | k + 1, x0, x1, x5 => if x5 < (x0.length : Int) then (if 0 ≤ x5 then (if x5 < (x1.length : Int) then (if (!(((rd_T32 x0 x5).f0) == ((rd_T32 x1 x5).f0)) || ((!(((rd_T32 x0 x5).f1.f0) == ((rd_T32 x1 x5).f1.f0)) || (!(((rd_T32 x0 x5).f1.f1) == ((rd_T32 x1 x5).f1.f1)))) || (!(((rd_T32 x0 x5).f2) == ((rd_T32 x1 x5).f2)) || ((!(((rd_T32 x0 x5).f3.f0) == ((rd_T32 x1 x5).f3.f0)) || (!(((rd_T32 x0 x5).f3.f1) == ((rd_T32 x1 x5).f3.f1)) || (!(((rd_T32 x0 x5).f3.f2) == ((rd_T32 x1 x5).f3.f2))))))))) = true then (some false) else (prolepsisref06_Same.l0 k x0 x1 (wrap64 (x5 + 1)))) else (none)) else (none)) else (some true)
def prolepsisref06_Same.f (k : Nat) (l0 : List (S32)) (l1 : List (S32)) : Option (Bool) := if (l0.length : Int) = (l1.length : Int) then (prolepsisref06_Same.l0 k l0 l1 0) else (some false)
set_option maxHeartbeats 8000000 in
set_option maxRecDepth 100000 in
theorem prolepsisref06_Same.calls (k : Nat) (A0 : Option Addr) (c0 : Nat) (l0 : List (S32)) (A1 : Option Addr) (c1 : Nat) (l1 : List (S32)) (r : Bool) (w : World) (hr0 : Kd.C k32 w A0 l0.length l0) (hc0 : l0.length ≤ c0) (hr1 : Kd.C k32 w A1 l1.length l1) (hc1 : l1.length ≤ c1) (h : prolepsisref06_Same.f k l0 l1 = some r) :
 Calls Try.prog 54 #[.slice A0 l0.length c0, .slice A1 l1.length c1] w fun e w' => e = .returned (.bool r) ∧ Drawn0 w w' := by
 have hu32 := Try.underlying32
 have HR0 := aS hr0
 have HC0 := aS hc0
 clear hr0 hc0
 have HR1 := aS hr1
 have HC1 := aS hc1
 clear hr1 hc1
 have H : (if (l0.length : Int) = (l1.length : Int) then (prolepsisref06_Same.l0 k l0 l1 0) else (some false)) = some r := h
 clear h
 by_cases c3 : (l0.length : Int) = (l1.length : Int)
 ·rw [if_pos c3] at H
  have c3b0 : ((l0.length : Int) == (l1.length : Int)) = true := beq_iff_eq.mpr c3
  have c3b1 : ((l0.length : Int) != (l1.length : Int)) = false := bne_eq_false_iff_eq.mpr c3
  have c3b2 : (l0.length == l1.length) = true := by first | simpa using c3 | (simp at c3 ⊢; omega)
  clear c3
  have H' := aS H
  clear H
  go_enter Try.func54, Try.ntmps54
  go_wp2
  repeat (go_quiet (fail); try go_wp2)
  go_loopg [5] k (fun kq v5 w' => ∃ (x5_1 : Int), v5 = .int .i64 x5_1 ∧ Aside0 (prolepsisref06_Same.l0 kq l0 l1 x5_1 = some r) ∧ Aside0 (kq ≤ k) ∧ Drawn0 w w')
  case atStart => exact ⟨(0), fS, H', ⟨Nat.le_refl _⟩, by repeat (first | exact Drawn0.refl _ | apply Drawn0.step)⟩
  case round =>
   clear H'
   try clear c1
   try clear p2
   try clear c3
   try clear c3b0
   try clear c3b1
   try clear c3b2
   obtain ⟨x5_1, rfl, HA, HK1, ⟨m1, rfl⟩⟩ := hrel
   cases gk with
   | zero => exact absurd HA.out (by simp [prolepsisref06_Same.l0])
   | succ k1 =>
    have H := HA.out
    clear HA
    simp only [prolepsisref06_Same.l0] at H
    by_cases c4 : x5_1 < (l0.length : Int)
    ·rw [if_pos c4] at H
     have c4b0 : decide (x5_1 < (l0.length : Int)) = true := decide_eq_true c4
     clear c4
     obtain ⟨c5, H⟩ := ifS H
     have c5b0 : decide (0 ≤ x5_1) = true := decide_eq_true c5
     clear c5
     obtain ⟨c6, H⟩ := ifS H
     have c6b0 : decide (x5_1 < (l1.length : Int)) = true := decide_eq_true c6
     clear c6
     by_cases c7 : (!(((rd_T32 l0 x5_1).f0) == ((rd_T32 l1 x5_1).f0)) || ((!(((rd_T32 l0 x5_1).f1.f0) == ((rd_T32 l1 x5_1).f1.f0)) || (!(((rd_T32 l0 x5_1).f1.f1) == ((rd_T32 l1 x5_1).f1.f1)))) || (!(((rd_T32 l0 x5_1).f2) == ((rd_T32 l1 x5_1).f2)) || ((!(((rd_T32 l0 x5_1).f3.f0) == ((rd_T32 l1 x5_1).f3.f0)) || (!(((rd_T32 l0 x5_1).f3.f1) == ((rd_T32 l1 x5_1).f3.f1)) || (!(((rd_T32 l0 x5_1).f3.f2) == ((rd_T32 l1 x5_1).f3.f2))))))))) = true
     ·rw [if_pos c7] at H
      have c7b0 : (!(((rd_T32 l0 x5_1).f0) == ((rd_T32 l1 x5_1).f0)) || ((!(((rd_T32 l0 x5_1).f1.f0) == ((rd_T32 l1 x5_1).f1.f0)) || (!(((rd_T32 l0 x5_1).f1.f1) == ((rd_T32 l1 x5_1).f1.f1)))) || (!(((rd_T32 l0 x5_1).f2) == ((rd_T32 l1 x5_1).f2)) || ((!(((rd_T32 l0 x5_1).f3.f0) == ((rd_T32 l1 x5_1).f3.f0)) || (!(((rd_T32 l0 x5_1).f3.f1) == ((rd_T32 l1 x5_1).f3.f1)) || (!(((rd_T32 l0 x5_1).f3.f2) == ((rd_T32 l1 x5_1).f3.f2))))))))) = true := c7
      clear c7
      obtain rfl := Option.some.inj H
      have p425 : 0 ≤ (x5_1 : Int) := dA
      have q425 : x5_1 < (l0.length : Int) := dA
      obtain ⟨ad425, e425, hx425_0, hx425_1, hx425_2, hx425_3, hx425_4, hx425_5, hx425_6⟩ := at_T32 HR0.out x5_1 p425 q425
      cases e425
      replace p425 := eq_true p425
      replace q425 := eq_true q425
      have p426 : 0 ≤ (x5_1 : Int) := dA
      have q426 : x5_1 < (l1.length : Int) := dA
      obtain ⟨ad426, e426, hx426_0, hx426_1, hx426_2, hx426_3, hx426_4, hx426_5, hx426_6⟩ := at_T32 HR1.out x5_1 p426 q426
      cases e426
      replace p426 := eq_true p426
      replace q426 := eq_true q426
      go_wp2
      repeat (go_quiet (fail); try go_wp2)
      go_ret
      exact ⟨by first | rfl | (simp; done) | (simp [*]; done), by repeat (first | exact Drawn0.refl _ | apply Drawn0.step)⟩
     ·rw [if_neg c7] at H
      have c7b0 : (!(((rd_T32 l0 x5_1).f0) == ((rd_T32 l1 x5_1).f0)) || ((!(((rd_T32 l0 x5_1).f1.f0) == ((rd_T32 l1 x5_1).f1.f0)) || (!(((rd_T32 l0 x5_1).f1.f1) == ((rd_T32 l1 x5_1).f1.f1)))) || (!(((rd_T32 l0 x5_1).f2) == ((rd_T32 l1 x5_1).f2)) || ((!(((rd_T32 l0 x5_1).f3.f0) == ((rd_T32 l1 x5_1).f3.f0)) || (!(((rd_T32 l0 x5_1).f3.f1) == ((rd_T32 l1 x5_1).f3.f1)) || (!(((rd_T32 l0 x5_1).f3.f2) == ((rd_T32 l1 x5_1).f3.f2))))))))) = false := by simpa using c7
      clear c7
      have H' := aS H
      clear H
      have p425 : 0 ≤ (x5_1 : Int) := dA
      have q425 : x5_1 < (l0.length : Int) := dA
      obtain ⟨ad425, e425, hx425_0, hx425_1, hx425_2, hx425_3, hx425_4, hx425_5, hx425_6⟩ := at_T32 HR0.out x5_1 p425 q425
      cases e425
      replace p425 := eq_true p425
      replace q425 := eq_true q425
      have p426 : 0 ≤ (x5_1 : Int) := dA
      have q426 : x5_1 < (l1.length : Int) := dA
      obtain ⟨ad426, e426, hx426_0, hx426_1, hx426_2, hx426_3, hx426_4, hx426_5, hx426_6⟩ := at_T32 HR1.out x5_1 p426 q426
      cases e426
      replace p426 := eq_true p426
      replace q426 := eq_true q426
      go_wp2
      repeat (go_quiet (fail); try go_wp2)
      go_roundg k1
      case measure => have := HK1.out; omega
      case rel => exact ⟨(wrap64 (x5_1 + 1)), fS, H', ⟨by have := HK1.out; omega⟩, by repeat (first | exact Drawn0.refl _ | apply Drawn0.step)⟩
    ·rw [if_neg c4] at H
     have c4b0 : decide (x5_1 < (l0.length : Int)) = false := decide_eq_false c4
     clear c4
     obtain rfl := Option.some.inj H
     go_wp2
     repeat (go_quiet (fail); try go_wp2)
     go_ret
     exact ⟨by first | rfl | (simp; done) | (simp [*]; done), by repeat (first | exact Drawn0.refl _ | apply Drawn0.step)⟩
 ·rw [if_neg c3] at H
  have c3b0 : ((l0.length : Int) == (l1.length : Int)) = false := beq_eq_false_iff_ne.mpr c3
  have c3b1 : ((l0.length : Int) != (l1.length : Int)) = true := bne_iff_ne.mpr c3
  have c3b2 : (l0.length == l1.length) = false := by first | simpa using c3 | (simp at c3 ⊢; omega)
  obtain rfl := Option.some.inj H
  go_enter Try.func54, Try.ntmps54
  go_wp2
  repeat (go_quiet (fail); try go_wp2)
  go_ret
  exact ⟨by first | rfl | (simp; done) | (simp [*]; done), by repeat (first | exact Drawn0.refl _ | apply Drawn0.step)⟩
mutual
def prolepsisref07_Same.j0 : Nat → Bool → List (List (S32)) → Int → Int → List (List (S32)) → Int → Int → Option (Bool)
 | 0, _, _, _, _, _, _, _ => none
 | k + 1, x26, x428000, x428001, x428002, x429000, x429001, x429002 => if x26 = true then (some false) else (prolepsisref07_Same.l0 k 0 x428000 x428001 x428002 x429000 x429001 x429002)
def prolepsisref07_Same.l0 : Nat → Int → List (List (S32)) → Int → Int → List (List (S32)) → Int → Int → Option (Bool)
 | 0, _, _, _, _, _, _, _ => none
 | k + 1, x5, x428000, x428001, x428002, x429000, x429001, x429002 => if x5 < (x428000.length : Int) then (if 0 ≤ x5 then (if x5 < (x429000.length : Int) then ((prolepsisref06_Same.f k (rd_L9 x428000 x5) (rd_L9 x429000 x5)).bind fun t431 => (if t431 = true then (prolepsisref07_Same.l0 k (wrap64 (x5 + 1)) x428000 x428001 x428002 x429000 x429001 x429002) else (some false))) else (none)) else (none)) else (some true)
end
def prolepsisref07_Same.f (k : Nat) (l0_0 : List (List (S32))) (a0_1 : Int) (a0_2 : Int) (l1_0 : List (List (S32))) (a1_1 : Int) (a1_2 : Int) : Option (Bool) := if (l0_0.length : Int) = (l1_0.length : Int) then (if a0_1 = a1_1 then (prolepsisref07_Same.j0 k (a0_2 != a1_2) l0_0 a0_1 a0_2 l1_0 a1_1 a1_2) else (prolepsisref07_Same.j0 k true l0_0 a0_1 a0_2 l1_0 a1_1 a1_2)) else (prolepsisref07_Same.j0 k true l0_0 a0_1 a0_2 l1_0 a1_1 a1_2)
set_option maxHeartbeats 8000000 in
set_option maxRecDepth 100000 in
theorem prolepsisref07_Same.calls (k : Nat) (A0_0 : Option Addr) (c0_0 : Nat) (l0_0 : List (List (S32))) (a0_1 : Int) (a0_2 : Int) (A1_0 : Option Addr) (c1_0 : Nat) (l1_0 : List (List (S32))) (a1_1 : Int) (a1_2 : Int) (r : Bool) (w : World) (hr0_0 : Kd.C (Kd.slice 32 k32) w A0_0 l0_0.length l0_0) (hc0_0 : l0_0.length ≤ c0_0) (hr1_0 : Kd.C (Kd.slice 32 k32) w A1_0 l1_0.length l1_0) (hc1_0 : l1_0.length ≤ c1_0) (h : prolepsisref07_Same.f k l0_0 a0_1 a0_2 l1_0 a1_1 a1_2 = some r) :
 Calls Try.prog 81 #[.agg #[.slice A0_0 l0_0.length c0_0, .int .i64 a0_1, .int .i64 a0_2], .agg #[.slice A1_0 l1_0.length c1_0, .int .i64 a1_1, .int .i64 a1_2]] w fun e w' => e = .returned (.bool r) ∧ Below w.heap.size w w' := by
 have hu108 := Try.underlying108
 have HR0_0 := aS hr0_0
 have HC0_0 := aS hc0_0
 clear hr0_0 hc0_0
 have HR1_0 := aS hr1_0
 have HC1_0 := aS hc1_0
 clear hr1_0 hc1_0
 have HB := aS (Below.refl w.heap.size w)
 have H : (if (l0_0.length : Int) = (l1_0.length : Int) then (if a0_1 = a1_1 then (prolepsisref07_Same.j0 k (a0_2 != a1_2) l0_0 a0_1 a0_2 l1_0 a1_1 a1_2) else (prolepsisref07_Same.j0 k true l0_0 a0_1 a0_2 l1_0 a1_1 a1_2)) else (prolepsisref07_Same.j0 k true l0_0 a0_1 a0_2 l1_0 a1_1 a1_2)) = some r := h
 clear h
 have HC3 := aS H
 clear H
 go_enter Try.func81, Try.ntmps81
 go_upto_region 1 with (first | (refine bx 2 #[.slice A0_0 l0_0.length c0_0, .int .i64 a0_1, .int .i64 a0_2] 108 ?_; intro gb427 hg w4 hbox hb; have BK427 := aS (hbox); have GW427 := aS (gw HB hg); have GE427 := aS (gw HB hg); replace HB := aS (below_step bB hb); clear hb hbox hg) | (refine bx 3 #[.slice A1_0 l1_0.length c1_0, .int .i64 a1_1, .int .i64 a1_2] 108 ?_; intro gb428 hg w5 hbox hb; have BK428 := aS (hbox); have GW428 := aS (gw HB hg); have GE428 := aS (gw HB hg); replace HB := aS (below_step bS hb); have NB427_428 := aS ((by rw [hg]; exact Nat.ne_of_lt (blk_lt (kb BK427)) : gb427 ≠ gb428)); have NB428_427 := aS ((by rw [hg]; exact Nat.ne_of_gt (blk_lt (kb BK427)) : gb428 ≠ gb427)); replace BK427 := aS (blk_below (kb BK427) hb); clear hb hbox hg))
 repeat (go_quiet (first | (refine bx 2 #[.slice A0_0 l0_0.length c0_0, .int .i64 a0_1, .int .i64 a0_2] 108 ?_; intro gb427 hg w4 hbox hb; have BK427 := aS (hbox); have GW427 := aS (gw HB hg); have GE427 := aS (gw HB hg); replace HB := aS (below_step bB hb); clear hb hbox hg) | (refine bx 3 #[.slice A1_0 l1_0.length c1_0, .int .i64 a1_1, .int .i64 a1_2] 108 ?_; intro gb428 hg w5 hbox hb; have BK428 := aS (hbox); have GW428 := aS (gw HB hg); have GE428 := aS (gw HB hg); replace HB := aS (below_step bS hb); have NB427_428 := aS ((by rw [hg]; exact Nat.ne_of_lt (blk_lt (kb BK427)) : gb427 ≠ gb428)); have NB428_427 := aS ((by rw [hg]; exact Nat.ne_of_gt (blk_lt (kb BK427)) : gb428 ≠ gb427)); replace BK427 := aS (blk_below (kb BK427) hb); clear hb hbox hg)); go_upto_region 1 with (first | (refine bx 2 #[.slice A0_0 l0_0.length c0_0, .int .i64 a0_1, .int .i64 a0_2] 108 ?_; intro gb427 hg w4 hbox hb; have BK427 := aS (hbox); have GW427 := aS (gw HB hg); have GE427 := aS (gw HB hg); replace HB := aS (below_step bB hb); clear hb hbox hg) | (refine bx 3 #[.slice A1_0 l1_0.length c1_0, .int .i64 a1_1, .int .i64 a1_2] 108 ?_; intro gb428 hg w5 hbox hb; have BK428 := aS (hbox); have GW428 := aS (gw HB hg); have GE428 := aS (gw HB hg); replace HB := aS (below_step bS hb); have NB427_428 := aS ((by rw [hg]; exact Nat.ne_of_lt (blk_lt (kb BK427)) : gb427 ≠ gb428)); have NB428_427 := aS ((by rw [hg]; exact Nat.ne_of_gt (blk_lt (kb BK427)) : gb428 ≠ gb427)); replace BK427 := aS (blk_below (kb BK427) hb); clear hb hbox hg)))
 (try simp only [Act.put, List.setIfInBounds_toArray, List.set_cons_zero, List.set_cons_succ])
 go_cut [26] (fun v26 wc => ∃ (kq : Nat) (x26_2 : Bool), v26 = .bool x26_2 ∧ Aside0 (prolepsisref07_Same.j0 kq x26_2 l0_0 a0_1 a0_2 l1_0 a1_1 a1_2 = some r) ∧ Aside0 (kq ≤ k) ∧ Aside0 (wc.heap[gb427]? = some (.cells #[(.slice A0_0 l0_0.length c0_0), .int .i64 a0_1, .int .i64 a0_2] 108 (0, 0))) ∧ Aside0 (wc.heap[gb428]? = some (.cells #[(.slice A1_0 l1_0.length c1_0), .int .i64 a1_1, .int .i64 a1_2] 108 (0, 0))) ∧ Aside0 (Below w.heap.size w wc))
 case first =>
  have H := HC3.out
  clear HC3
  by_cases c6 : (l0_0.length : Int) = (l1_0.length : Int)
  ·rw [if_pos c6] at H
   have c6b0 : ((l0_0.length : Int) == (l1_0.length : Int)) = true := beq_iff_eq.mpr c6
   have c6b1 : ((l0_0.length : Int) != (l1_0.length : Int)) = false := bne_eq_false_iff_eq.mpr c6
   have c6b2 : (l0_0.length == l1_0.length) = true := by first | simpa using c6 | (simp at c6 ⊢; omega)
   clear c6
   (first | rw [c6b0] | (simp only [i64_w, i32_w]; rw [c6b0]) | skip)
   by_cases c7 : a0_1 = a1_1
   ·rw [if_pos c7] at H
    have c7b0 : (a0_1 == a1_1) = true := beq_iff_eq.mpr c7
    have c7b1 : (a0_1 != a1_1) = false := bne_eq_false_iff_eq.mpr c7
    clear c7
    have H' := aS H
    clear H
    have hnb8 := NB427_428.out
    have hnc8 := NB428_427.out
    have hz9 := cel3 BK427.out
    have hz10 := cel3 BK428.out
    go_wp2
    repeat (go_quiet (fail); try go_wp2)
    go_meet
    case rel => exact ⟨_, ((a0_2 != a1_2)), fS, H', ⟨by first | omega | exact Nat.le_refl _⟩, ⟨kb BK427⟩, ⟨kb BK428⟩, ⟨bS⟩⟩
   ·rw [if_neg c7] at H
    have c7b0 : (a0_1 == a1_1) = false := beq_eq_false_iff_ne.mpr c7
    have c7b1 : (a0_1 != a1_1) = true := bne_iff_ne.mpr c7
    have H' := aS H
    clear H
    have hnb11 := NB427_428.out
    have hnc11 := NB428_427.out
    have hz12 := cel3 BK427.out
    have hz13 := cel3 BK428.out
    go_wp2
    repeat (go_quiet (fail); try go_wp2)
    go_meet
    case rel => exact ⟨_, (true), fS, H', ⟨by first | omega | exact Nat.le_refl _⟩, ⟨kb BK427⟩, ⟨kb BK428⟩, ⟨bS⟩⟩
  ·rw [if_neg c6] at H
   have c6b0 : ((l0_0.length : Int) == (l1_0.length : Int)) = false := beq_eq_false_iff_ne.mpr c6
   have c6b1 : ((l0_0.length : Int) != (l1_0.length : Int)) = true := bne_iff_ne.mpr c6
   have c6b2 : (l0_0.length == l1_0.length) = false := by first | simpa using c6 | (simp at c6 ⊢; omega)
   (first | rw [c6b0] | (simp only [i64_w, i32_w]; rw [c6b0]) | skip)
   have H' := aS H
   clear H
   have hnb14 := NB427_428.out
   have hnc14 := NB428_427.out
   have hz15 := cel3 BK427.out
   have hz16 := cel3 BK428.out
   go_wp2
   repeat (go_quiet (fail); try go_wp2)
   go_meet
   case rel => exact ⟨_, (true), fS, H', ⟨by first | omega | exact Nat.le_refl _⟩, ⟨kb BK427⟩, ⟨kb BK428⟩, ⟨bS⟩⟩
 case rest =>
  clear HC3
  try clear c1
  try clear p2
  try clear c6
  try clear c6b0
  try clear c6b1
  try clear c6b2
  try clear c7
  try clear c7b0
  try clear c7b1
  try clear c8
  try clear c11
  try clear c14
  try clear hz10
  try clear hz12
  try clear hz13
  try clear hz15
  try clear hz16
  try clear hz9
  obtain ⟨kq, x26_2, rfl, HA, HJ2, BK427, BK428, HB⟩ := hcut
  cases kq with
  | zero => exact absurd HA.out (by simp [prolepsisref07_Same.j0])
  | succ kj2 =>
   have H := HA.out
   clear HA
   simp only [prolepsisref07_Same.j0] at H
   by_cases c17 : x26_2 = true
   ·subst c17
    have H1 : (some false) = some r := by rw [if_pos rfl] at H; exact H
    clear H
    have H := H1
    clear H1
    obtain rfl := Option.some.inj H
    go_wp2
    repeat (go_quiet (fail); try go_wp2)
    go_ret
    exact ⟨by first | rfl | (simp <;> rfl) | (simp [*] <;> rfl), bS⟩
   ·replace c17 := Bool.eq_false_iff.mpr c17
    subst c17
    have H1 : (prolepsisref07_Same.l0 kj2 0 l0_0 a0_1 a0_2 l1_0 a1_1 a1_2) = some r := by rw [if_neg (show ¬ (false = true) by decide)] at H; exact H
    clear H
    have H := H1
    clear H1
    have H' := aS H
    clear H
    go_wp2
    repeat (go_quiet (fail); try go_wp2)
    go_loopg [5] kj2 (fun kq v5 w' => ∃ (x5_2 : Int), v5 = .int .i64 x5_2 ∧ Aside0 (prolepsisref07_Same.l0 kq x5_2 l0_0 a0_1 a0_2 l1_0 a1_1 a1_2 = some r) ∧ Aside0 (kq ≤ kj2) ∧ Aside0 (w'.heap[gb427]? = some (.cells #[(.slice A0_0 l0_0.length c0_0), .int .i64 a0_1, .int .i64 a0_2] 108 (0, 0))) ∧ Aside0 (w'.heap[gb428]? = some (.cells #[(.slice A1_0 l1_0.length c1_0), .int .i64 a1_1, .int .i64 a1_2] 108 (0, 0))) ∧ Aside0 (Below w.heap.size w w'))
    case atStart => exact ⟨(0), fS, H', ⟨Nat.le_refl _⟩, ⟨kb BK427⟩, ⟨kb BK428⟩, ⟨bS⟩⟩
    case round =>
     clear H'
     try clear c1
     try clear p2
     try clear c6
     try clear c6b0
     try clear c6b1
     try clear c6b2
     try clear c7
     try clear c7b0
     try clear c7b1
     try clear c8
     try clear c11
     try clear c14
     try clear c17
     try clear hz10
     try clear hz12
     try clear hz13
     try clear hz15
     try clear hz16
     try clear hz9
     try clear p2
     obtain ⟨x5_2, rfl, HA, HK2, BK427, BK428, HB⟩ := hrel
     cases gk with
     | zero => exact absurd HA.out (by simp [prolepsisref07_Same.l0])
     | succ k2 =>
      have H := HA.out
      clear HA
      simp only [prolepsisref07_Same.l0] at H
      by_cases c18 : x5_2 < (l0_0.length : Int)
      ·rw [if_pos c18] at H
       have c18b0 : decide (x5_2 < (l0_0.length : Int)) = true := decide_eq_true c18
       clear c18
       obtain ⟨c19, H⟩ := ifS H
       have c19b0 : decide (0 ≤ x5_2) = true := decide_eq_true c19
       clear c19
       obtain ⟨c20, H⟩ := ifS H
       have c20b0 : decide (x5_2 < (l1_0.length : Int)) = true := decide_eq_true c20
       clear c20
       replace H := Option.bind_eq_some_iff.mp H
       obtain ⟨t431, A210, H⟩ := H
       try dsimp only at H
       have A21 := aS A210
       clear A210
       by_cases c22 : t431 = true
       ·subst c22
        have H1 : (prolepsisref07_Same.l0 k2 (wrap64 (x5_2 + 1)) l0_0 a0_1 a0_2 l1_0 a1_1 a1_2) = some r := by rw [if_pos rfl] at H; exact H
        clear H
        have H := H1
        clear H1
        have H' := aS H
        clear H
        have hnb23 := NB427_428.out
        have hnc23 := NB428_427.out
        have hz24 := cel3 BK427.out
        have p429 : 0 ≤ (x5_2 : Int) := dA
        have q429 : x5_2 < (l0_0.length : Int) := dA
        obtain ⟨ad429, A429_0, c429_0, e429, hx429_0, hl429_0, hi429_0⟩ := at_L9 HR0_0.out x5_2 p429 q429
        cases e429
        replace hx429_0 := xc HB hx429_0
        have HR429_0 := aS hi429_0
        have HC429_0 := aS hl429_0
        clear hi429_0 hl429_0
        replace p429 := eq_true p429
        replace q429 := eq_true q429
        have hz25 := cel3 BK428.out
        have p430 : 0 ≤ (x5_2 : Int) := dA
        have q430 : x5_2 < (l1_0.length : Int) := dA
        obtain ⟨ad430, A430_0, c430_0, e430, hx430_0, hl430_0, hi430_0⟩ := at_L9 HR1_0.out x5_2 p430 q430
        cases e430
        replace hx430_0 := xc HB hx430_0
        have HR430_0 := aS hi430_0
        have HC430_0 := aS hl430_0
        clear hi430_0 hl430_0
        replace p430 := eq_true p430
        replace q430 := eq_true q430
        go_wp2_with (first | (go_at_call 54; (with_reducible refine (prolepsisref06_Same.calls k2 _ _ (rd_L9 l0_0 x5_2) _ _ (rd_L9 l1_0 x5_2) true _ ?side1 ?side2 ?side3 ?side4 A21.out).mono ?_); (case side1 => repeat (first | exact (Kd.C_below HR429_0.out HB.out) | (with_reducible refine Kd.C_alloc ?_ _) | (with_reducible refine Kd.C_drewN ?_ _) | (with_reducible refine Kd.C_drew ?_))); (case side2 => exact HC429_0.out); (case side3 => repeat (first | exact (Kd.C_below HR430_0.out HB.out) | (with_reducible refine Kd.C_alloc ?_ _) | (with_reducible refine Kd.C_drewN ?_ _) | (with_reducible refine Kd.C_drew ?_))); (case side4 => exact HC430_0.out); rintro e w' ⟨rfl, ⟨nd, rfl⟩⟩; (try first | exact ⟨rfl, _, World.drewN_drewN _ _ _⟩ | exact ⟨rfl, _, Eq.trans (World.drewN_drewN _ _ _) (congrArg (World.drewN _) (Nat.add_assoc _ _ _))⟩)))
        repeat (go_quiet (first | (go_at_call 54; (with_reducible refine (prolepsisref06_Same.calls k2 _ _ (rd_L9 l0_0 x5_2) _ _ (rd_L9 l1_0 x5_2) true _ ?side1 ?side2 ?side3 ?side4 A21.out).mono ?_); (case side1 => repeat (first | exact (Kd.C_below HR429_0.out HB.out) | (with_reducible refine Kd.C_alloc ?_ _) | (with_reducible refine Kd.C_drewN ?_ _) | (with_reducible refine Kd.C_drew ?_))); (case side2 => exact HC429_0.out); (case side3 => repeat (first | exact (Kd.C_below HR430_0.out HB.out) | (with_reducible refine Kd.C_alloc ?_ _) | (with_reducible refine Kd.C_drewN ?_ _) | (with_reducible refine Kd.C_drew ?_))); (case side4 => exact HC430_0.out); rintro e w' ⟨rfl, ⟨nd, rfl⟩⟩; (try first | exact ⟨rfl, _, World.drewN_drewN _ _ _⟩ | exact ⟨rfl, _, Eq.trans (World.drewN_drewN _ _ _) (congrArg (World.drewN _) (Nat.add_assoc _ _ _))⟩))); try go_wp2_with (first | (go_at_call 54; (with_reducible refine (prolepsisref06_Same.calls k2 _ _ (rd_L9 l0_0 x5_2) _ _ (rd_L9 l1_0 x5_2) true _ ?side1 ?side2 ?side3 ?side4 A21.out).mono ?_); (case side1 => repeat (first | exact (Kd.C_below HR429_0.out HB.out) | (with_reducible refine Kd.C_alloc ?_ _) | (with_reducible refine Kd.C_drewN ?_ _) | (with_reducible refine Kd.C_drew ?_))); (case side2 => exact HC429_0.out); (case side3 => repeat (first | exact (Kd.C_below HR430_0.out HB.out) | (with_reducible refine Kd.C_alloc ?_ _) | (with_reducible refine Kd.C_drewN ?_ _) | (with_reducible refine Kd.C_drew ?_))); (case side4 => exact HC430_0.out); rintro e w' ⟨rfl, ⟨nd, rfl⟩⟩; (try first | exact ⟨rfl, _, World.drewN_drewN _ _ _⟩ | exact ⟨rfl, _, Eq.trans (World.drewN_drewN _ _ _) (congrArg (World.drewN _) (Nat.add_assoc _ _ _))⟩))))
        go_roundg k2
        case measure => have := HJ2.out; have := HK2.out; omega
        case rel => exact ⟨(wrap64 (x5_2 + 1)), fS, H', ⟨by have := HJ2.out; have := HK2.out; omega⟩, ⟨kb BK427⟩, ⟨kb BK428⟩, ⟨bS⟩⟩
       ·replace c22 := Bool.eq_false_iff.mpr c22
        subst c22
        have H1 : (some false) = some r := by rw [if_neg (show ¬ (false = true) by decide)] at H; exact H
        clear H
        have H := H1
        clear H1
        obtain rfl := Option.some.inj H
        have hnb26 := NB427_428.out
        have hnc26 := NB428_427.out
        have hz27 := cel3 BK427.out
        have p429 : 0 ≤ (x5_2 : Int) := dA
        have q429 : x5_2 < (l0_0.length : Int) := dA
        obtain ⟨ad429, A429_0, c429_0, e429, hx429_0, hl429_0, hi429_0⟩ := at_L9 HR0_0.out x5_2 p429 q429
        cases e429
        replace hx429_0 := xc HB hx429_0
        have HR429_0 := aS hi429_0
        have HC429_0 := aS hl429_0
        clear hi429_0 hl429_0
        replace p429 := eq_true p429
        replace q429 := eq_true q429
        have hz28 := cel3 BK428.out
        have p430 : 0 ≤ (x5_2 : Int) := dA
        have q430 : x5_2 < (l1_0.length : Int) := dA
        obtain ⟨ad430, A430_0, c430_0, e430, hx430_0, hl430_0, hi430_0⟩ := at_L9 HR1_0.out x5_2 p430 q430
        cases e430
        replace hx430_0 := xc HB hx430_0
        have HR430_0 := aS hi430_0
        have HC430_0 := aS hl430_0
        clear hi430_0 hl430_0
        replace p430 := eq_true p430
        replace q430 := eq_true q430
        go_wp2_with (first | (go_at_call 54; (with_reducible refine (prolepsisref06_Same.calls k2 _ _ (rd_L9 l0_0 x5_2) _ _ (rd_L9 l1_0 x5_2) false _ ?side1 ?side2 ?side3 ?side4 A21.out).mono ?_); (case side1 => repeat (first | exact (Kd.C_below HR429_0.out HB.out) | (with_reducible refine Kd.C_alloc ?_ _) | (with_reducible refine Kd.C_drewN ?_ _) | (with_reducible refine Kd.C_drew ?_))); (case side2 => exact HC429_0.out); (case side3 => repeat (first | exact (Kd.C_below HR430_0.out HB.out) | (with_reducible refine Kd.C_alloc ?_ _) | (with_reducible refine Kd.C_drewN ?_ _) | (with_reducible refine Kd.C_drew ?_))); (case side4 => exact HC430_0.out); rintro e w' ⟨rfl, ⟨nd, rfl⟩⟩; (try first | exact ⟨rfl, _, World.drewN_drewN _ _ _⟩ | exact ⟨rfl, _, Eq.trans (World.drewN_drewN _ _ _) (congrArg (World.drewN _) (Nat.add_assoc _ _ _))⟩)))
        repeat (go_quiet (first | (go_at_call 54; (with_reducible refine (prolepsisref06_Same.calls k2 _ _ (rd_L9 l0_0 x5_2) _ _ (rd_L9 l1_0 x5_2) false _ ?side1 ?side2 ?side3 ?side4 A21.out).mono ?_); (case side1 => repeat (first | exact (Kd.C_below HR429_0.out HB.out) | (with_reducible refine Kd.C_alloc ?_ _) | (with_reducible refine Kd.C_drewN ?_ _) | (with_reducible refine Kd.C_drew ?_))); (case side2 => exact HC429_0.out); (case side3 => repeat (first | exact (Kd.C_below HR430_0.out HB.out) | (with_reducible refine Kd.C_alloc ?_ _) | (with_reducible refine Kd.C_drewN ?_ _) | (with_reducible refine Kd.C_drew ?_))); (case side4 => exact HC430_0.out); rintro e w' ⟨rfl, ⟨nd, rfl⟩⟩; (try first | exact ⟨rfl, _, World.drewN_drewN _ _ _⟩ | exact ⟨rfl, _, Eq.trans (World.drewN_drewN _ _ _) (congrArg (World.drewN _) (Nat.add_assoc _ _ _))⟩))); try go_wp2_with (first | (go_at_call 54; (with_reducible refine (prolepsisref06_Same.calls k2 _ _ (rd_L9 l0_0 x5_2) _ _ (rd_L9 l1_0 x5_2) false _ ?side1 ?side2 ?side3 ?side4 A21.out).mono ?_); (case side1 => repeat (first | exact (Kd.C_below HR429_0.out HB.out) | (with_reducible refine Kd.C_alloc ?_ _) | (with_reducible refine Kd.C_drewN ?_ _) | (with_reducible refine Kd.C_drew ?_))); (case side2 => exact HC429_0.out); (case side3 => repeat (first | exact (Kd.C_below HR430_0.out HB.out) | (with_reducible refine Kd.C_alloc ?_ _) | (with_reducible refine Kd.C_drewN ?_ _) | (with_reducible refine Kd.C_drew ?_))); (case side4 => exact HC430_0.out); rintro e w' ⟨rfl, ⟨nd, rfl⟩⟩; (try first | exact ⟨rfl, _, World.drewN_drewN _ _ _⟩ | exact ⟨rfl, _, Eq.trans (World.drewN_drewN _ _ _) (congrArg (World.drewN _) (Nat.add_assoc _ _ _))⟩))))
        go_ret
        exact ⟨by first | rfl | (simp <;> rfl) | (simp [*] <;> rfl), bS⟩
      ·rw [if_neg c18] at H
       have c18b0 : decide (x5_2 < (l0_0.length : Int)) = false := decide_eq_false c18
       clear c18
       obtain rfl := Option.some.inj H
       have hnb29 := NB427_428.out
       have hnc29 := NB428_427.out
       have hz30 := cel3 BK427.out
       go_wp2
       repeat (go_quiet (fail); try go_wp2)
       go_ret
       exact ⟨by first | rfl | (simp <;> rfl) | (simp [*] <;> rfl), bS⟩
end Go.Proofs.Ytblcmcdifgclcaa.PGridSame
