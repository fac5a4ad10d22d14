/- GridPlays: what its proof leads to. No condition. -/
import Derived.Test.YtblcmcdifgclcaaGreatG6qGridPlays
import Derived.Test.YtblcmcdifgclcaaGreatG23qGridPlays
import Derived.Test.YtblcmcdifgclcaaGreatG24qGridPlays
namespace Go.Proofs.YtblcmcdifgclcaaGreat.Grd
open Go.RowKit Go.Proofs.YtblcmcdifgclcaaGreat Go.Proofs.YtblcmcdifgclcaaGreat.PGridPlays Go.Proofs.YtblcmcdifgclcaaGreatW.PrintWords Go.Proofs.YtblcmcdifgclcaaGreatW.PrintLast Go.Proofs.YtblcmcdifgclcaaGreatW.PrintMore
set_option linter.unusedVariables false
set_option linter.unusedSimpArgs false
set_option maxRecDepth 100000
set_option maxHeartbeats 4000000
attribute [local go_sem] isSome_setCell max2_int min2_int max_two min_two
abbrev refV (x : CS) : Value := .agg #[.int .i64 x.f0, .int .i64 x.f1.f0, .int .i64 x.f1.f1, .int .u8 x.f2, .int .u8 x.f3.f0, .int .u8 x.f3.f1, .int .u8 x.f3.f2]
abbrev refL (x : CS) : List Value := [.int .i64 x.f0, .int .i64 x.f1.f0, .int .i64 x.f1.f1, .int .u8 x.f2, .int .u8 x.f3.f0, .int .u8 x.f3.f1, .int .u8 x.f3.f2]
abbrev refB (x : CS) : Obj := .cells #[.int .i64 x.f0, .int .i64 x.f1.f0, .int .i64 x.f1.f1, .int .u8 x.f2, .int .u8 x.f3.f0, .int .u8 x.f3.f1, .int .u8 x.f3.f2] 52 (0, 0)
theorem infoRC : (Tryz.prog.info? 52).map (fun i => (i.zero, i.size, i.bytes)) = some (some (.agg #[.int .i64 0, .int .i64 0, .int .i64 0, .int .u8 0, .int .u8 0, .int .u8 0, .int .u8 0]), 7, 32) := by kernel_rfl
def RPost (W : World) (ok : Nat → Prop) (l : List CS) (b : Bool) (e : Ending) (w' : World) : Prop :=
 ∃ v, e = .returned (.tuple #[v, .bool b]) ∧ RD kRC w' (fun k => ok k ∨ W.heap.size ≤ k) v (l.map toR) ∧ Below W.heap.size W w'
theorem rPut_any (l : List CS) (i : Int) (hi : -9223372036854775808 ≤ i ∧ i ≤ 9223372036854775807) (x : CS) (hx : W32 x) (hl : l.length ≤ 1000) (A : Option Addr) (c : Nat) (w : World) (ok : Nat → Prop) (hc : l.length ≤ c) (hF : Kd.F kRC w ok A l.length (l.map toR)) :
 Calls Tryz.prog 65 #[.slice A l.length c, .int .i64 i, refV x] w (RPost w ok (putC l i x) (putOk l i x)) := by
 have HRR := aS (show prolepsisref05_Right.f 30 x.f0 x.f1.f0 x.f1.f1 x.f2 x.f3.f0 x.f3.f1 x.f3.f2 = some (rightS x) from rRight_ok _ _ _ _ _ _ _ hx.2.2.2 30 (by omega))
 have HF := aS (And.intro hc hF)
 have same : ∀ w', Below w.heap.size w w' → RD kRC w' (fun k => ok k ∨ w.heap.size ≤ k) (.slice A l.length c) (l.map toR) := fun w' hb => ⟨A, c, by rw [List.length_map], by rw [List.length_map]; exact HF.out.1, by rw [List.length_map]; exact Kd.F_mono (Kd.F_below HF.out.2 hb) (fun k hk => .inl hk)⟩
 have HSM := aS same
 clear hc hF same
 have bad : putOk l i x = false → putC l i x = l := fun h => put_no h
 by_cases h1 : rightS x = false
 ·have hp : putOk l i x = false := by unfold putOk; simp [h1]
  rw [hp, bad hp]
  rw [h1] at HRR
  clear h1 hp bad hi hx
  go_enter Tryz.func65, Tryz.ntmps65
  go_wp2_with (first | (go_at_call 84; refine (prolepsisref05_Right.calls 30 _ _ _ _ _ _ _ _ _ HRR.out).mono ?_; rintro e w1 ⟨rfl, hb⟩; have H1 := aS (And.intro (below_then (below_alloc (Below.refl w.heap.size w) (refB x)) (below_size (below_alloc (Below.refl _ _) _)) hb) (blk_below (blk_new w (refB x)) hb)); have b0 := (blk_cell H1.out.2 0).trans (rfl : _ = some (Value.int .i64 x.f0)); have b1 := (blk_cell H1.out.2 1).trans (rfl : _ = some (Value.int .i64 x.f1.f0)); have b2 := (blk_cell H1.out.2 2).trans (rfl : _ = some (Value.int .i64 x.f1.f1)); have b3 := (blk_cell H1.out.2 3).trans (rfl : _ = some (Value.int .u8 x.f2)); have b4 := (blk_cell H1.out.2 4).trans (rfl : _ = some (Value.int .u8 x.f3.f0)); have b5 := (blk_cell H1.out.2 5).trans (rfl : _ = some (Value.int .u8 x.f3.f1)); have b6 := (blk_cell H1.out.2 6).trans (rfl : _ = some (Value.int .u8 x.f3.f2)); clear hb))
  all_goals go_ret2
  all_goals exact ⟨_, rfl, HSM.out _ H1.out.1, H1.out.1⟩
 have h1 := Bool.of_not_eq_false h1
 rw [h1] at HRR
 by_cases h2 : x.f2 = 0
 ·have hp : putOk l i x = false := by unfold putOk; simp [h2]
  have hT2 : (x.f2 == 0) = true := beq_iff_eq.2 h2
  rw [hp, bad hp]
  clear h1 h2 hp bad hi hx
  go_enter Tryz.func65, Tryz.ntmps65
  go_wp2_with (first | (go_at_call 84; refine (prolepsisref05_Right.calls 30 _ _ _ _ _ _ _ _ _ HRR.out).mono ?_; rintro e w1 ⟨rfl, hb⟩; have H1 := aS (And.intro (below_then (below_alloc (Below.refl w.heap.size w) (refB x)) (below_size (below_alloc (Below.refl _ _) _)) hb) (blk_below (blk_new w (refB x)) hb)); have b0 := (blk_cell H1.out.2 0).trans (rfl : _ = some (Value.int .i64 x.f0)); have b1 := (blk_cell H1.out.2 1).trans (rfl : _ = some (Value.int .i64 x.f1.f0)); have b2 := (blk_cell H1.out.2 2).trans (rfl : _ = some (Value.int .i64 x.f1.f1)); have b3 := (blk_cell H1.out.2 3).trans (rfl : _ = some (Value.int .u8 x.f2)); have b4 := (blk_cell H1.out.2 4).trans (rfl : _ = some (Value.int .u8 x.f3.f0)); have b5 := (blk_cell H1.out.2 5).trans (rfl : _ = some (Value.int .u8 x.f3.f1)); have b6 := (blk_cell H1.out.2 6).trans (rfl : _ = some (Value.int .u8 x.f3.f2)); clear hb))
  all_goals go_ret2
  all_goals exact ⟨_, rfl, HSM.out _ H1.out.1, H1.out.1⟩
 have hT2 : (x.f2 == 0) = false := beq_eq_false_iff_ne.2 h2
 by_cases h3 : i < 0
 ·have hp : putOk l i x = false := by unfold putOk; simp; omega
  have hT3 : decide (i < 0) = true := decide_eq_true h3
  rw [hp, bad hp]
  clear h1 h2 h3 hp bad hi hx
  go_enter Tryz.func65, Tryz.ntmps65
  go_wp2_with (first | (go_at_call 84; refine (prolepsisref05_Right.calls 30 _ _ _ _ _ _ _ _ _ HRR.out).mono ?_; rintro e w1 ⟨rfl, hb⟩; have H1 := aS (And.intro (below_then (below_alloc (Below.refl w.heap.size w) (refB x)) (below_size (below_alloc (Below.refl _ _) _)) hb) (blk_below (blk_new w (refB x)) hb)); have b0 := (blk_cell H1.out.2 0).trans (rfl : _ = some (Value.int .i64 x.f0)); have b1 := (blk_cell H1.out.2 1).trans (rfl : _ = some (Value.int .i64 x.f1.f0)); have b2 := (blk_cell H1.out.2 2).trans (rfl : _ = some (Value.int .i64 x.f1.f1)); have b3 := (blk_cell H1.out.2 3).trans (rfl : _ = some (Value.int .u8 x.f2)); have b4 := (blk_cell H1.out.2 4).trans (rfl : _ = some (Value.int .u8 x.f3.f0)); have b5 := (blk_cell H1.out.2 5).trans (rfl : _ = some (Value.int .u8 x.f3.f1)); have b6 := (blk_cell H1.out.2 6).trans (rfl : _ = some (Value.int .u8 x.f3.f2)); clear hb))
  all_goals go_ret2
  all_goals exact ⟨_, rfl, HSM.out _ H1.out.1, H1.out.1⟩
 have hT3 : decide (i < 0) = false := decide_eq_false h3
 by_cases h4 : (l.length : Int) ≤ i
 ·have hle := right_le h1
  have hp : putOk l i x = false := by unfold putOk; have := hx.2.2.2.1; simp [h1]; omega
  have hT4 : decide ((l.length : Int) ≤ i) = true := decide_eq_true h4
  rw [hp, bad hp]
  clear h1 h2 h3 h4 hle hp bad hi hx
  go_enter Tryz.func65, Tryz.ntmps65
  go_wp2_with (first | (go_at_call 84; refine (prolepsisref05_Right.calls 30 _ _ _ _ _ _ _ _ _ HRR.out).mono ?_; rintro e w1 ⟨rfl, hb⟩; have H1 := aS (And.intro (below_then (below_alloc (Below.refl w.heap.size w) (refB x)) (below_size (below_alloc (Below.refl _ _) _)) hb) (blk_below (blk_new w (refB x)) hb)); have b0 := (blk_cell H1.out.2 0).trans (rfl : _ = some (Value.int .i64 x.f0)); have b1 := (blk_cell H1.out.2 1).trans (rfl : _ = some (Value.int .i64 x.f1.f0)); have b2 := (blk_cell H1.out.2 2).trans (rfl : _ = some (Value.int .i64 x.f1.f1)); have b3 := (blk_cell H1.out.2 3).trans (rfl : _ = some (Value.int .u8 x.f2)); have b4 := (blk_cell H1.out.2 4).trans (rfl : _ = some (Value.int .u8 x.f3.f0)); have b5 := (blk_cell H1.out.2 5).trans (rfl : _ = some (Value.int .u8 x.f3.f1)); have b6 := (blk_cell H1.out.2 6).trans (rfl : _ = some (Value.int .u8 x.f3.f2)); clear hb))
  all_goals go_ret2
  all_goals exact ⟨_, rfl, HSM.out _ H1.out.1, H1.out.1⟩
 have hT4 : decide ((l.length : Int) ≤ i) = false := decide_eq_false h4
 have hwl : wrap64 ((l.length : Int) - 1) = (l.length : Int) - 1 := w64 (by omega) (by omega)
 have hle := right_le h1
 by_cases h5 : x.f2 = 2 ∧ i = (l.length : Int) - 1
 ·have hp : putOk l i x = false := by unfold putOk; rw [h5.1, h5.2]; simp; intros; omega
  have hT5 : (x.f2 == 2) = true := beq_iff_eq.2 h5.1
  have hT6 : (i == (l.length : Int) - 1) = true := beq_iff_eq.2 h5.2
  rw [hp, bad hp]
  clear h1 h2 h3 h4 h5 hle hp bad hi hx
  go_enter Tryz.func65, Tryz.ntmps65
  go_wp2_with (first | (go_at_call 84; refine (prolepsisref05_Right.calls 30 _ _ _ _ _ _ _ _ _ HRR.out).mono ?_; rintro e w1 ⟨rfl, hb⟩; have H1 := aS (And.intro (below_then (below_alloc (Below.refl w.heap.size w) (refB x)) (below_size (below_alloc (Below.refl _ _) _)) hb) (blk_below (blk_new w (refB x)) hb)); have b0 := (blk_cell H1.out.2 0).trans (rfl : _ = some (Value.int .i64 x.f0)); have b1 := (blk_cell H1.out.2 1).trans (rfl : _ = some (Value.int .i64 x.f1.f0)); have b2 := (blk_cell H1.out.2 2).trans (rfl : _ = some (Value.int .i64 x.f1.f1)); have b3 := (blk_cell H1.out.2 3).trans (rfl : _ = some (Value.int .u8 x.f2)); have b4 := (blk_cell H1.out.2 4).trans (rfl : _ = some (Value.int .u8 x.f3.f0)); have b5 := (blk_cell H1.out.2 5).trans (rfl : _ = some (Value.int .u8 x.f3.f1)); have b6 := (blk_cell H1.out.2 6).trans (rfl : _ = some (Value.int .u8 x.f3.f2)); clear hb))
  all_goals go_ret2
  all_goals exact ⟨_, rfl, HSM.out _ H1.out.1, H1.out.1⟩
 obtain ⟨n, rfl⟩ : ∃ n : Nat, i = (n : Int) := ⟨i.toNat, by omega⟩
 have hpo : (n : Int) + x.f2 ≤ l.length := by omega
 have hp : putOk l (n : Int) x = true := by unfold putOk; simp [h1, h2]; omega
 have hw12 : x.f2 = 1 ∨ x.f2 = 2 := by have := hx.2.2.2.1; omega
 have hput : putC l (n : Int) x = mendC (fillC l.length (putAt l n x)) := by unfold putC; rw [hp, if_pos rfl, Int.toNat_natCast, put_fill l n x hw12 hpo]
 rw [hp, hput]
 have hwn : wrap64 ((n : Int) + 1) = ((n + 1 : Nat) : Int) := by rw [w64 (by omega) (by omega)]; omega
 have hT4n : decide (l.length ≤ n) = false := decide_eq_false (by omega)
 have HMD := aS (show prolepsisref06_Mend.f 2000 ((fillC l.length (putAt l n x)).map toR) = some ((mendC (fillC l.length (putAt l n x))).map toR) from rMend_ok _ (by rw [fill_len]; omega) 2000 (by rw [fill_len]; omega))
 obtain ⟨N, hN⟩ : ∃ N, l.length = N := ⟨_, rfl⟩
 have HN := aS hN
 have HLL := aS hl
 have HPP := aS (And.intro hw12 hpo)
 have HNN := aS (show n < N by omega)
 rw [hN] at hT4 hT4n hwl HMD ⊢
 have hT5 : (x.f2 == 2 && ((n : Int) == (N : Int) - 1)) = false := by
  by_cases a : x.f2 = 2
  ·have : (n : Int) ≠ (N : Int) - 1 := fun e => h5 ⟨a, by omega⟩
   rw [beq_eq_false_iff_ne.2 this, Bool.and_false]
  ·rw [beq_eq_false_iff_ne.2 a, Bool.false_and]
 obtain ⟨ad0, rfl, -⟩ := at_T52 (Kd.F_now HF.out.2) 0 (by omega) (by omega)
 clear h1 h2 h3 h4 h5 hle hp hput hi hl hpo hN bad hw12
 by_cases h7 : x.f2 = 2
 ·have hT7 : (x.f2 == 2) = true := beq_iff_eq.2 h7
  have hT8 : ((n : Int) == (N : Int) - 1) = false := by rw [hT7, Bool.true_and] at hT5; exact hT5
  clear hT5
  have H7 := aS h7
  clear h7
  go_enter Tryz.func65, Tryz.ntmps65
  go_wp2_with (first | (go_at_call 84; refine (prolepsisref05_Right.calls 30 _ _ _ _ _ _ _ _ _ HRR.out).mono ?_; rintro e w1 ⟨rfl, hb⟩; have H1 := aS (And.intro (below_then (below_alloc (Below.refl w.heap.size w) (refB x)) (below_size (below_alloc (Below.refl _ _) _)) hb) (blk_below (blk_new w (refB x)) hb)); have b0 := (blk_cell H1.out.2 0).trans (rfl : _ = some (Value.int .i64 x.f0)); have b1 := (blk_cell H1.out.2 1).trans (rfl : _ = some (Value.int .i64 x.f1.f0)); have b2 := (blk_cell H1.out.2 2).trans (rfl : _ = some (Value.int .i64 x.f1.f1)); have b3 := (blk_cell H1.out.2 3).trans (rfl : _ = some (Value.int .u8 x.f2)); have b4 := (blk_cell H1.out.2 4).trans (rfl : _ = some (Value.int .u8 x.f3.f0)); have b5 := (blk_cell H1.out.2 5).trans (rfl : _ = some (Value.int .u8 x.f3.f1)); have b6 := (blk_cell H1.out.2 6).trans (rfl : _ = some (Value.int .u8 x.f3.f2)); clear hb))
  clear hT2 hT3 hT4 hT4n hwl b0 b1 b2 b3 b4 b5 b6
  go_loopg [8, 9] (N + 1) (fun kq v8 v9 w' => ∃ (j : Nat), v9 = .int .i64 j ∧ Aside0 (kq = N - j + 1 ∧ j ≤ N) ∧ Aside0 (Kd.R kRC 52 w' w1.heap.size (fun _ => True) v8 ((fillC j (putAt l n x)).map toR) ∧ Below w1.heap.size w1 w'))
  case atStart => exact ⟨0, by go_num, ⟨by omega, by omega⟩, ⟨Kd.R_nil _ _ _ _ _, Below.refl _ _⟩⟩
  case round =>
   obtain ⟨j, rfl, HK, HB⟩ := hrel
   by_cases hj : j < N
   ·have hT : decide (j < N) = true := decide_eq_true (by omega)
    have hw1 : wrap64 ((j : Int) + 1) = ((j + 1 : Nat) : Int) := by rw [w64 (by omega) (by have := HLL.out; have := HN.out; omega)]; omega
    have b0 := pw_cell_below HB.out.2 ((blk_cell H1.out.2 0).trans (rfl : _ = some (Value.int .i64 x.f0)))
    have b1 := pw_cell_below HB.out.2 ((blk_cell H1.out.2 1).trans (rfl : _ = some (Value.int .i64 x.f1.f0)))
    have b2 := pw_cell_below HB.out.2 ((blk_cell H1.out.2 2).trans (rfl : _ = some (Value.int .i64 x.f1.f1)))
    have b3 := pw_cell_below HB.out.2 ((blk_cell H1.out.2 3).trans (rfl : _ = some (Value.int .u8 x.f2)))
    have b4 := pw_cell_below HB.out.2 ((blk_cell H1.out.2 4).trans (rfl : _ = some (Value.int .u8 x.f3.f0)))
    have b5 := pw_cell_below HB.out.2 ((blk_cell H1.out.2 5).trans (rfl : _ = some (Value.int .u8 x.f3.f1)))
    have b6 := pw_cell_below HB.out.2 ((blk_cell H1.out.2 6).trans (rfl : _ = some (Value.int .u8 x.f3.f2)))
    obtain ⟨y, hy⟩ : ∃ y, putAt l n x j = y := ⟨_, rfl⟩
    have HY := aS hy
    have hfl : (fillC j (putAt l n x)).length = j := fill_len _ _
    obtain ⟨P, hP⟩ : ∃ P, fillC j (putAt l n x) = P := ⟨_, rfl⟩
    have HP := aS (show (fillC (j + 1) (putAt l n x)) = P ++ [y] by rw [fill_snoc, hP, hy])
    rw [hP] at HB hfl
    have HPL := aS (show (P.map toR).length = j by rw [List.length_map]; exact hfl)
    by_cases a1 : j = n
    ·have e1 : (j == n) = true := beq_iff_eq.2 a1
     have e2 : ((j : Int) == (n : Int)) = true := beq_iff_eq.2 (by omega)
     have HXY := aS (show x = y by rw [← hy]; unfold putAt; rw [if_pos a1])
     clear hy hP hfl a1
     go_wp2_with (first | ((with_reducible refine gate_builtin (b := .append) (xs := #[.tmp 58, .tmp 60]) rfl ?_); go_must (at_builtin); go_must (refine Kd.R_append kRC (w0 := w1) w1.heap.size rfl (.tmp 58) (.tmp 60) 72 52 _ 32 rfl Tryz.underlying72 infoRC rfl (by decide) (by omega) u8 (P.map toR) (toR x) (refL x) (fun _ => True) (fun _ => False) rfl rfl (k52_mkM _ _ _ (toR x)) (fun _ hk => hk.elim) (fun _ _ => trivial) HB.out.1 HB.out.2 HB.out.2.size (by rw [HPL.out]; have := HLL.out; have := HN.out; omega) ?_); intro v4 w4 ho hb hg hat; have H4 := aS (show Kd.R kRC 52 w4 w1.heap.size (fun _ => True) v4 ((fillC (j + 1) (putAt l n x)).map toR) ∧ Below w1.heap.size w1 w4 by rw [HP.out, ← HXY.out, List.map_append]; exact ⟨ho, hb⟩); clear ho hb hg hat))
     all_goals go_roundg (N - (j + 1) + 1)
     all_goals first | (case measure => have := HK.out; omega) | (case rel => exact ⟨j + 1, by go_num, ⟨rfl, by omega⟩, H4⟩)
    ·have e1 : (j == n) = false := beq_eq_false_iff_ne.2 a1
     have e2 : ((j : Int) == (n : Int)) = false := beq_eq_false_iff_ne.2 (by omega)
     by_cases a2 : j = n + 1 ∧ x.f2 = 2
     ·have e3 : (j == n + 1) = true := beq_iff_eq.2 a2.1
      have e4 : ((j : Int) == (n : Int) + 1) = true := beq_iff_eq.2 (by omega)
      have e5 : ((j : Int) == ((n + 1 : Nat) : Int)) = true := beq_iff_eq.2 (by omega)
      have e6 : (x.f2 == 2) = true := beq_iff_eq.2 a2.2
      have HXY := aS (show restS x = y by rw [← hy]; unfold putAt; rw [if_neg a1, if_pos a2])
      clear hy hP hfl a1 a2
      go_wp2_with (first | (go_at_call 93; refine (prolepsisref05_Rest.calls _ _ _ _ _ _ _ _ _ _ _ _ _ _ _ rfl).mono ?_; rintro e w3 ⟨rfl, hb⟩; have H3 := aS (And.intro (Kd.R_below HB.out.1 hb) (below_then HB.out.2 HB.out.2.size hb)); clear hb) | ((with_reducible refine gate_builtin (b := .append) (xs := #[.tmp 72, .tmp 75]) rfl ?_); go_must (at_builtin); go_must (refine Kd.R_append kRC (w0 := w1) w1.heap.size rfl (.tmp 72) (.tmp 75) 72 52 _ 32 rfl Tryz.underlying72 infoRC rfl (by decide) (by omega) u8 (P.map toR) (toR (restS x)) (refL (restS x)) (fun _ => True) (fun _ => False) rfl rfl (k52_mkM _ _ _ (toR (restS x))) (fun _ hk => hk.elim) (fun _ _ => trivial) H3.out.1 H3.out.2 H3.out.2.size (by rw [HPL.out]; have := HLL.out; have := HN.out; omega) ?_); intro v4 w4 ho hb hg hat; have H4 := aS (show Kd.R kRC 52 w4 w1.heap.size (fun _ => True) v4 ((fillC (j + 1) (putAt l n x)).map toR) ∧ Below w1.heap.size w1 w4 by rw [HP.out, ← HXY.out, List.map_append]; exact ⟨ho, hb⟩); clear ho hb hg hat))
      all_goals go_roundg (N - (j + 1) + 1)
      all_goals first | (case measure => have := HK.out; omega) | (case rel => exact ⟨j + 1, by go_num, ⟨rfl, by omega⟩, H4⟩)
     ·have e3 : (j == n + 1 && x.f2 == 2) = false := by
       by_cases q : j = n + 1
       ·rw [beq_eq_false_iff_ne.2 (fun e => a2 ⟨q, e⟩), Bool.and_false]
       ·rw [beq_eq_false_iff_ne.2 q, Bool.false_and]
      have HYV := aS (show rd_T40 l (j : Int) = y by rw [← hy]; unfold putAt; rw [if_neg a1, if_neg a2])
      have hjl : j < l.length := by have := HN.out; omega
      have HFW := aS (Kd.C_below (Kd.C_below (Kd.F_now HF.out.2) H1.out.1) HB.out.2)
      obtain ⟨ad, hAd, c0, c1, c2, c3, c4, c5, c6⟩ := at_T52 HFW.out (j : Int) (Int.natCast_nonneg j) (by omega)
      rw [rd_R l j hjl, HYV.out] at c0 c1 c2 c3 c4 c5 c6
      simp only [Int.toNat_natCast] at c0 c1 c2 c3 c4 c5 c6
      have hd0 : (toR y).f0 = y.f0 := rfl
      injection hAd with hAd
      subst hAd
      clear hy hP hfl hjl
      by_cases q : j = n + 1
      ·exact absurd ⟨q, H7.out⟩ a2
      ·have e7 : (j == n + 1) = false := beq_eq_false_iff_ne.2 q
       have e4 : ((j : Int) == (n : Int) + 1) = false := beq_eq_false_iff_ne.2 (by omega)
       have e5 : ((j : Int) == ((n + 1 : Nat) : Int)) = false := beq_eq_false_iff_ne.2 (by omega)
       clear q a1 a2 e3
       go_wp2_with (first | ((with_reducible refine gate_builtin (b := .append) (xs := #[.tmp 47, .tmp 52]) rfl ?_); go_must (at_builtin); go_must (refine Kd.R_append kRC (w0 := w1) w1.heap.size rfl (.tmp 47) (.tmp 52) 72 52 _ 32 rfl Tryz.underlying72 infoRC rfl (by decide) (by omega) u8 (P.map toR) (toR y) (refL y) (fun _ => True) (fun _ => False) rfl rfl (k52_mkM _ _ _ (toR y)) (fun _ hk => hk.elim) (fun _ _ => trivial) HB.out.1 HB.out.2 HB.out.2.size (by rw [HPL.out]; have := HLL.out; have := HN.out; omega) ?_); intro v4 w4 ho hb hg hat; have H4 := aS (show Kd.R kRC 52 w4 w1.heap.size (fun _ => True) v4 ((fillC (j + 1) (putAt l n x)).map toR) ∧ Below w1.heap.size w1 w4 by rw [HP.out, List.map_append]; exact ⟨ho, hb⟩); clear ho hb hg hat))
       all_goals go_roundg (N - (j + 1) + 1)
       all_goals first | (case measure => have := HK.out; omega) | (case rel => exact ⟨j + 1, by go_num, ⟨rfl, by omega⟩, H4⟩)
   ·have hT : decide (j < N) = false := decide_eq_false hj
    obtain rfl : j = N := by have := HK.out; omega
    clear hj
    obtain ⟨Z, hZ⟩ : ∃ Z, (fillC j (putAt l n x)).map toR = Z := ⟨_, rfl⟩
    rw [hZ] at HB HMD
    clear hZ
    obtain ⟨A8, c8, rfl, hc8, hC8⟩ := Kd.R_reads HB.out.1
    have H8 := aS (And.intro hc8 hC8)
    clear hc8 hC8
    go_wp2_with (first | (go_at_call 94; go_must (refine (prolepsisref06_Mend.calls 2000 A8 c8 _ _ _ H8.out.2 H8.out.1 HMD.out).mono ?_); rintro e w3 ⟨v3, rfl, hR, hb⟩; have H3 := aS (And.intro (RD.ofR hR) (below_then (H1.out.1.trans (HB.out.2.mono H1.out.1.size)) (H1.out.1.trans (HB.out.2.mono H1.out.1.size)).size hb)); clear hR hb))
    all_goals go_ret2
    all_goals exact ⟨_, rfl, H3.out.1.mono (fun k hk => .inr (Nat.le_trans (Nat.le_trans H1.out.1.size HB.out.2.size) hk)), H3.out.2⟩
 ·have hT7 : (x.f2 == 2) = false := beq_eq_false_iff_ne.2 h7
  clear hT5
  have H7 := aS h7
  clear h7
  go_enter Tryz.func65, Tryz.ntmps65
  go_wp2_with (first | (go_at_call 84; refine (prolepsisref05_Right.calls 30 _ _ _ _ _ _ _ _ _ HRR.out).mono ?_; rintro e w1 ⟨rfl, hb⟩; have H1 := aS (And.intro (below_then (below_alloc (Below.refl w.heap.size w) (refB x)) (below_size (below_alloc (Below.refl _ _) _)) hb) (blk_below (blk_new w (refB x)) hb)); have b0 := (blk_cell H1.out.2 0).trans (rfl : _ = some (Value.int .i64 x.f0)); have b1 := (blk_cell H1.out.2 1).trans (rfl : _ = some (Value.int .i64 x.f1.f0)); have b2 := (blk_cell H1.out.2 2).trans (rfl : _ = some (Value.int .i64 x.f1.f1)); have b3 := (blk_cell H1.out.2 3).trans (rfl : _ = some (Value.int .u8 x.f2)); have b4 := (blk_cell H1.out.2 4).trans (rfl : _ = some (Value.int .u8 x.f3.f0)); have b5 := (blk_cell H1.out.2 5).trans (rfl : _ = some (Value.int .u8 x.f3.f1)); have b6 := (blk_cell H1.out.2 6).trans (rfl : _ = some (Value.int .u8 x.f3.f2)); clear hb))
  clear hT2 hT3 hT4 hT4n hwl b0 b1 b2 b3 b4 b5 b6
  go_loopg [8, 9] (N + 1) (fun kq v8 v9 w' => ∃ (j : Nat), v9 = .int .i64 j ∧ Aside0 (kq = N - j + 1 ∧ j ≤ N) ∧ Aside0 (Kd.R kRC 52 w' w1.heap.size (fun _ => True) v8 ((fillC j (putAt l n x)).map toR) ∧ Below w1.heap.size w1 w'))
  case atStart => exact ⟨0, by go_num, ⟨by omega, by omega⟩, ⟨Kd.R_nil _ _ _ _ _, Below.refl _ _⟩⟩
  case round =>
   obtain ⟨j, rfl, HK, HB⟩ := hrel
   by_cases hj : j < N
   ·have hT : decide (j < N) = true := decide_eq_true (by omega)
    have hw1 : wrap64 ((j : Int) + 1) = ((j + 1 : Nat) : Int) := by rw [w64 (by omega) (by have := HLL.out; have := HN.out; omega)]; omega
    have b0 := pw_cell_below HB.out.2 ((blk_cell H1.out.2 0).trans (rfl : _ = some (Value.int .i64 x.f0)))
    have b1 := pw_cell_below HB.out.2 ((blk_cell H1.out.2 1).trans (rfl : _ = some (Value.int .i64 x.f1.f0)))
    have b2 := pw_cell_below HB.out.2 ((blk_cell H1.out.2 2).trans (rfl : _ = some (Value.int .i64 x.f1.f1)))
    have b3 := pw_cell_below HB.out.2 ((blk_cell H1.out.2 3).trans (rfl : _ = some (Value.int .u8 x.f2)))
    have b4 := pw_cell_below HB.out.2 ((blk_cell H1.out.2 4).trans (rfl : _ = some (Value.int .u8 x.f3.f0)))
    have b5 := pw_cell_below HB.out.2 ((blk_cell H1.out.2 5).trans (rfl : _ = some (Value.int .u8 x.f3.f1)))
    have b6 := pw_cell_below HB.out.2 ((blk_cell H1.out.2 6).trans (rfl : _ = some (Value.int .u8 x.f3.f2)))
    obtain ⟨y, hy⟩ : ∃ y, putAt l n x j = y := ⟨_, rfl⟩
    have HY := aS hy
    have hfl : (fillC j (putAt l n x)).length = j := fill_len _ _
    obtain ⟨P, hP⟩ : ∃ P, fillC j (putAt l n x) = P := ⟨_, rfl⟩
    have HP := aS (show (fillC (j + 1) (putAt l n x)) = P ++ [y] by rw [fill_snoc, hP, hy])
    rw [hP] at HB hfl
    have HPL := aS (show (P.map toR).length = j by rw [List.length_map]; exact hfl)
    by_cases a1 : j = n
    ·have e1 : (j == n) = true := beq_iff_eq.2 a1
     have e2 : ((j : Int) == (n : Int)) = true := beq_iff_eq.2 (by omega)
     have HXY := aS (show x = y by rw [← hy]; unfold putAt; rw [if_pos a1])
     clear hy hP hfl a1
     go_wp2_with (first | ((with_reducible refine gate_builtin (b := .append) (xs := #[.tmp 58, .tmp 60]) rfl ?_); go_must (at_builtin); go_must (refine Kd.R_append kRC (w0 := w1) w1.heap.size rfl (.tmp 58) (.tmp 60) 72 52 _ 32 rfl Tryz.underlying72 infoRC rfl (by decide) (by omega) u8 (P.map toR) (toR x) (refL x) (fun _ => True) (fun _ => False) rfl rfl (k52_mkM _ _ _ (toR x)) (fun _ hk => hk.elim) (fun _ _ => trivial) HB.out.1 HB.out.2 HB.out.2.size (by rw [HPL.out]; have := HLL.out; have := HN.out; omega) ?_); intro v4 w4 ho hb hg hat; have H4 := aS (show Kd.R kRC 52 w4 w1.heap.size (fun _ => True) v4 ((fillC (j + 1) (putAt l n x)).map toR) ∧ Below w1.heap.size w1 w4 by rw [HP.out, ← HXY.out, List.map_append]; exact ⟨ho, hb⟩); clear ho hb hg hat))
     all_goals go_roundg (N - (j + 1) + 1)
     all_goals first | (case measure => have := HK.out; omega) | (case rel => exact ⟨j + 1, by go_num, ⟨rfl, by omega⟩, H4⟩)
    ·have e1 : (j == n) = false := beq_eq_false_iff_ne.2 a1
     have e2 : ((j : Int) == (n : Int)) = false := beq_eq_false_iff_ne.2 (by omega)
     by_cases a2 : j = n + 1 ∧ x.f2 = 2
     ·exact absurd a2.2 H7.out
     ·have e3 : (j == n + 1 && x.f2 == 2) = false := by
       by_cases q : j = n + 1
       ·rw [beq_eq_false_iff_ne.2 (fun e => a2 ⟨q, e⟩), Bool.and_false]
       ·rw [beq_eq_false_iff_ne.2 q, Bool.false_and]
      have HYV := aS (show rd_T40 l (j : Int) = y by rw [← hy]; unfold putAt; rw [if_neg a1, if_neg a2])
      have hjl : j < l.length := by have := HN.out; omega
      have HFW := aS (Kd.C_below (Kd.C_below (Kd.F_now HF.out.2) H1.out.1) HB.out.2)
      obtain ⟨ad, hAd, c0, c1, c2, c3, c4, c5, c6⟩ := at_T52 HFW.out (j : Int) (Int.natCast_nonneg j) (by omega)
      rw [rd_R l j hjl, HYV.out] at c0 c1 c2 c3 c4 c5 c6
      simp only [Int.toNat_natCast] at c0 c1 c2 c3 c4 c5 c6
      have hd0 : (toR y).f0 = y.f0 := rfl
      injection hAd with hAd
      subst hAd
      clear hy hP hfl a2 hjl
      by_cases q : j = n + 1
      ·have e8 : (x.f2 == 2) = false := by rw [beq_iff_eq.2 q, Bool.true_and] at e3; exact e3
       subst q
       clear a1 e3 e1 e2 hw1
       have hw1 : wrap64 ((n : Int) + 1 + 1) = ((n + 1 + 1 : Nat) : Int) := by rw [w64 (by omega) (by have := HLL.out; have := HN.out; omega)]; omega
       have e1 : (n + 1 == n) = false := beq_eq_false_iff_ne.2 (by omega)
       have e2 : (((n + 1 : Nat) : Int) == (n : Int)) = false := beq_eq_false_iff_ne.2 (by omega)
       go_wp2_with (first | ((with_reducible refine gate_builtin (b := .append) (xs := #[.tmp 47, .tmp 52]) rfl ?_); go_must (at_builtin); go_must (refine Kd.R_append kRC (w0 := w1) w1.heap.size rfl (.tmp 47) (.tmp 52) 72 52 _ 32 rfl Tryz.underlying72 infoRC rfl (by decide) (by omega) u8 (P.map toR) (toR y) (refL y) (fun _ => True) (fun _ => False) rfl rfl (k52_mkM _ _ _ (toR y)) (fun _ hk => hk.elim) (fun _ _ => trivial) HB.out.1 HB.out.2 HB.out.2.size (by rw [HPL.out]; have := HLL.out; have := HN.out; omega) ?_); intro v4 w4 ho hb hg hat; have H4 := aS (show Kd.R kRC 52 w4 w1.heap.size (fun _ => True) v4 ((fillC (n + 1 + 1) (putAt l n x)).map toR) ∧ Below w1.heap.size w1 w4 by rw [HP.out, List.map_append]; exact ⟨ho, hb⟩); clear ho hb hg hat))
       all_goals go_roundg (N - (n + 1 + 1) + 1)
       all_goals first | (case measure => have := HK.out; omega) | (case rel => exact ⟨n + 1 + 1, by go_num, ⟨rfl, by omega⟩, H4⟩)
      ·have e7 : (j == n + 1) = false := beq_eq_false_iff_ne.2 q
       have e4 : ((j : Int) == (n : Int) + 1) = false := beq_eq_false_iff_ne.2 (by omega)
       have e5 : ((j : Int) == ((n + 1 : Nat) : Int)) = false := beq_eq_false_iff_ne.2 (by omega)
       clear q a1 e3
       go_wp2_with (first | ((with_reducible refine gate_builtin (b := .append) (xs := #[.tmp 47, .tmp 52]) rfl ?_); go_must (at_builtin); go_must (refine Kd.R_append kRC (w0 := w1) w1.heap.size rfl (.tmp 47) (.tmp 52) 72 52 _ 32 rfl Tryz.underlying72 infoRC rfl (by decide) (by omega) u8 (P.map toR) (toR y) (refL y) (fun _ => True) (fun _ => False) rfl rfl (k52_mkM _ _ _ (toR y)) (fun _ hk => hk.elim) (fun _ _ => trivial) HB.out.1 HB.out.2 HB.out.2.size (by rw [HPL.out]; have := HLL.out; have := HN.out; omega) ?_); intro v4 w4 ho hb hg hat; have H4 := aS (show Kd.R kRC 52 w4 w1.heap.size (fun _ => True) v4 ((fillC (j + 1) (putAt l n x)).map toR) ∧ Below w1.heap.size w1 w4 by rw [HP.out, List.map_append]; exact ⟨ho, hb⟩); clear ho hb hg hat))
       all_goals go_roundg (N - (j + 1) + 1)
       all_goals first | (case measure => have := HK.out; omega) | (case rel => exact ⟨j + 1, by go_num, ⟨rfl, by omega⟩, H4⟩)
   ·have hT : decide (j < N) = false := decide_eq_false hj
    obtain rfl : j = N := by have := HK.out; omega
    clear hj
    obtain ⟨Z, hZ⟩ : ∃ Z, (fillC j (putAt l n x)).map toR = Z := ⟨_, rfl⟩
    rw [hZ] at HB HMD
    clear hZ
    obtain ⟨A8, c8, rfl, hc8, hC8⟩ := Kd.R_reads HB.out.1
    have H8 := aS (And.intro hc8 hC8)
    clear hc8 hC8
    go_wp2_with (first | (go_at_call 94; go_must (refine (prolepsisref06_Mend.calls 2000 A8 c8 _ _ _ H8.out.2 H8.out.1 HMD.out).mono ?_); rintro e w3 ⟨v3, rfl, hR, hb⟩; have H3 := aS (And.intro (RD.ofR hR) (below_then (H1.out.1.trans (HB.out.2.mono H1.out.1.size)) (H1.out.1.trans (HB.out.2.mono H1.out.1.size)).size hb)); clear hR hb))
    all_goals go_ret2
    all_goals exact ⟨_, rfl, H3.out.1.mono (fun k hk => .inr (Nat.le_trans (Nat.le_trans H1.out.1.size HB.out.2.size) hk)), H3.out.2⟩
end Go.Proofs.YtblcmcdifgclcaaGreat.Grd
