/- GridPlays: what its proof leads to. No condition. -/
import Derived.Test.YtblcmcdifgclcaaGreatG6qGridPlays
import Derived.Test.YtblcmcdifgclcaaGreatG23qGridPlays
import Derived.Test.YtblcmcdifgclcaaGreatG24qGridPlays
import Derived.Test.YtblcmcdifgclcaaGreatG28qGridPlays
import Derived.Test.YtblcmcdifgclcaaGreatG30qGridPlays
namespace Go.Proofs.YtblcmcdifgclcaaGreat.Grd
open Go.RowKit Go.Proofs.YtblcmcdifgclcaaGreat Go.Proofs.YtblcmcdifgclcaaGreat.PGridPlays Go.Proofs.YtblcmcdifgclcaaGreatW.PrintWords Go.Proofs.YtblcmcdifgclcaaGreatW.PrintLast Go.Proofs.YtblcmcdifgclcaaGreatW.PrintMore
set_option linter.unusedVariables false
set_option linter.unusedSimpArgs false
set_option maxRecDepth 100000
set_option maxHeartbeats 4000000
attribute [local go_sem] isSome_setCell max2_int min2_int max_two min_two
section
variable {ok1 ok2 : Nat → Prop} {W : World} {b1 c1 b2 c2 : Nat} {L1 L2 : List (List CS)}
theorem take_eq {α : Type} {X Y : List α} {i : Nat} {x y : α} (h : X.take i = Y.take i) (hx : X[i]? = some x) (hy : Y[i]? = some y) (e : x = y) : X.take (i + 1) = Y.take (i + 1) := by rw [take_more hx, take_more hy, h, e]
theorem EqualFunc_any (h1 : GL W ok1 (.slice (some ⟨b1, 0, none⟩) L1.length c1) L1) (h2 : GL W ok2 (.slice (some ⟨b2, 0, none⟩) L2.length c2) L2) (hs1 : L1.length ≤ 512) (hl : ∀ l ∈ L1, l.length ≤ 1000) :
 Calls Tryz.prog 76 #[.slice (some ⟨b1, 0, none⟩) L1.length c1, .slice (some ⟨b2, 0, none⟩) L2.length c2, .func (.func 77) #[] #[]] W fun e w' => e = .returned (.bool (decide (L1 = L2))) ∧ Below W.heap.size W w' := by
 have HG1 := aS h1.rows
 have HG2 := aS h2.rows
 have HL := aS (And.intro hs1 hl)
 clear h1 h2 hs1 hl
 obtain ⟨n, hn⟩ : ∃ n, L1.length = n := ⟨_, rfl⟩
 obtain ⟨m, hm⟩ : ∃ m, L2.length = m := ⟨_, rfl⟩
 have HNM := aS (And.intro hn hm)
 rw [hn, hm]
 clear hn hm
 by_cases hnm : n = m
 ·subst hnm
  go_enter Tryz.func76, Tryz.ntmps76
  go_wp2
  go_loopg [17] (n + 1) (fun kq v17 w' => ∃ (i : Nat), v17 = .int .i64 i ∧ Aside0 (kq = n - i + 1 ∧ i ≤ n) ∧ Aside0 (Below W.heap.size W w' ∧ L1.take i = L2.take i))
  case atStart => exact ⟨0, by go_num, ⟨by omega, by omega⟩, ⟨Below.refl _ _, rfl⟩⟩
  case round =>
   obtain ⟨i, rfl, HK, HB⟩ := hrel
   by_cases hi : i < n
   ·have hT : decide (i < n) = true := decide_eq_true (by omega)
    have hw1 : wrap64 ((i : Int) + 1) = ((i + 1 : Nat) : Int) := by rw [w64 (by omega) (by have := HL.out.1; have := HNM.out; omega)]; omega
    obtain ⟨l1, hl1⟩ : ∃ l, L1[i]? = some l := ⟨_, List.getElem?_eq_getElem (by have := HNM.out; omega)⟩
    obtain ⟨l2, hl2⟩ : ∃ l, L2[i]? = some l := ⟨_, List.getElem?_eq_getElem (by have := HNM.out; omega)⟩
    obtain ⟨cs1, hr1, hc1⟩ := HG1.out
    obtain ⟨cs2, hr2, hc2⟩ := HG2.out
    obtain ⟨A1, d1, a1, e1, f1⟩ := hr1.2 i l1 hl1
    obtain ⟨A2, d2, a2, e2, f2⟩ := hr2.2 i l2 hl2
    have k1 := pw_cell_below HB.out.1 (hc1 i _ a1)
    have k2 := pw_cell_below HB.out.1 (hc2 i _ a2)
    have HC := aS (And.intro (Kd.C_below (Kd.F_now f1) HB.out.1) (And.intro e1 (And.intro (Kd.C_below (Kd.F_now f2) HB.out.1) (And.intro e2 (Same_ok l1 l2 (by have := HL.out.2 l1 (List.mem_of_getElem? hl1); omega) 2000 (by have := HL.out.2 l1 (List.mem_of_getElem? hl1); omega))))))
    have HLL := aS (And.intro hl1 hl2)
    clear hr1 hr2 hc1 hc2 a1 a2 e1 e2 f1 f2 hl1 hl2
    by_cases he : l1 = l2
    ·have HE := aS he
     have HQ := aS (show line_Same.f 2000 l1 l2 = some true by rw [HC.out.2.2.2.2, decide_eq_true he])
     clear he
     go_wp2_with (first | (go_at_call 77; go_must (refine (line_Same.calls 2000 A1 d1 l1 A2 d2 l2 _ _ HC.out.1 HC.out.2.1 HC.out.2.2.1 HC.out.2.2.2.1 HQ.out).mono ?_); rintro e w2 ⟨rfl, hd⟩; have H2 := aS (below_step HB.out.1 hd.below); clear hd))
     all_goals go_roundg (n - (i + 1) + 1)
     all_goals first | (case measure => have := HK.out; omega) | (case rel => exact ⟨i + 1, by go_num, ⟨rfl, by omega⟩, ⟨H2.out, take_eq HB.out.2 HLL.out.1 HLL.out.2 HE.out⟩⟩)
    ·have HE := aS he
     have HQ := aS (show line_Same.f 2000 l1 l2 = some false by rw [HC.out.2.2.2.2, decide_eq_false he])
     clear he
     go_wp2_with (first | (go_at_call 77; go_must (refine (line_Same.calls 2000 A1 d1 l1 A2 d2 l2 _ _ HC.out.1 HC.out.2.1 HC.out.2.2.1 HC.out.2.2.2.1 HQ.out).mono ?_); rintro e w2 ⟨rfl, hd⟩; have H2 := aS (below_step HB.out.1 hd.below); clear hd))
     all_goals go_ret
     all_goals exact ⟨by rw [decide_eq_false (fun e => HE.out (by have h1 := HLL.out.1; rw [e, HLL.out.2] at h1; injection h1 with h1; exact h1.symm))]; rfl, H2.out⟩
   ·have hT : decide (i < n) = false := decide_eq_false hi
    obtain rfl : i = n := by have := HK.out; omega
    clear hi
    go_wp2
    all_goals go_ret
    all_goals exact ⟨by
     have h := HB.out.2
     rw [List.take_of_length_le (by rw [HNM.out.1]; exact Nat.le_refl _), List.take_of_length_le (by rw [HNM.out.2]; exact Nat.le_refl _)] at h
     rw [decide_eq_true h]; rfl, HB.out.1⟩
 ·have hT : ((n : Int) != (m : Int)) = true := by rw [bne_iff_ne]; omega
  have HN := aS hnm
  clear hnm
  go_enter Tryz.func76, Tryz.ntmps76
  go_wp2
  all_goals go_ret
  all_goals exact ⟨by rw [decide_eq_false (fun e => HN.out (by rw [← HNM.out.1, ← HNM.out.2, e]))]; rfl, Below.refl _ _⟩
theorem Right1_any {w : World} {A : Option Addr} {c : Nat} {l : List CS} (hC : Kd.C kCl w A l.length l) (hc : l.length ≤ c) (h : line_Right.f l = some true) :
 Calls Tryz.prog 48 #[.slice A l.length c] w fun e w' => e = .returned (.bool false) ∧ Below w.heap.size w w' := by
 have HC := aS (And.intro hC (And.intro hc h))
 clear hC hc h
 go_enter Tryz.func48, Tryz.ntmps48
 go_wp2_with (first | (go_at_call 49; go_must (refine (line_Right.calls A c l _ _ HC.out.1 HC.out.2.1 HC.out.2.2).mono ?_); rintro e w2 ⟨rfl, hd⟩; have H2 := aS hd; clear hd))
 all_goals go_ret
 all_goals exact ⟨rfl, H2.out⟩
theorem IndexFunc_any (h1 : GL W ok1 (.slice (some ⟨b1, 0, none⟩) L1.length c1) L1) (hs1 : L1.length ≤ 512) (hl : ∀ l ∈ L1, l.length ≤ 1000 ∧ (∀ x ∈ l, 0 ≤ x.f2 ∧ x.f2 ≤ 255) ∧ rightL l = true) :
 Calls Tryz.prog 81 #[.slice (some ⟨b1, 0, none⟩) L1.length c1, .func (.func 48) #[] #[]] W fun e w' => e = .returned (.int .i64 (-1)) ∧ Below W.heap.size W w' := by
 have HG1 := aS h1.rows
 have HL := aS (And.intro hs1 hl)
 clear h1 hs1 hl
 obtain ⟨n, hn⟩ : ∃ n, L1.length = n := ⟨_, rfl⟩
 have HN := aS hn
 rw [hn]
 clear hn
 go_enter Tryz.func81, Tryz.ntmps81
 go_wp2
 go_loopg [8] (n + 1) (fun kq v8 w' => ∃ (i : Nat), v8 = .int .i64 i ∧ Aside0 (kq = n - i + 1 ∧ i ≤ n) ∧ Aside0 (Below W.heap.size W w'))
 case atStart => exact ⟨0, by go_num, ⟨by omega, by omega⟩, ⟨Below.refl _ _⟩⟩
 case round =>
  obtain ⟨i, rfl, HK, HB⟩ := hrel
  by_cases hi : i < n
  ·have hT : decide (i < n) = true := decide_eq_true (by omega)
   have hw1 : wrap64 ((i : Int) + 1) = ((i + 1 : Nat) : Int) := by rw [w64 (by omega) (by have := HL.out.1; have := HN.out; omega)]; omega
   obtain ⟨l1, hl1⟩ : ∃ l, L1[i]? = some l := ⟨_, List.getElem?_eq_getElem (by have := HN.out; omega)⟩
   obtain ⟨cs1, hr1, hc1⟩ := HG1.out
   obtain ⟨A1, d1, a1, e1, f1⟩ := hr1.2 i l1 hl1
   have k1 := pw_cell_below HB.out (hc1 i _ a1)
   have hq := HL.out.2 l1 (List.mem_of_getElem? hl1)
   have HC := aS (And.intro (Kd.C_below (Kd.F_now f1) HB.out) (And.intro e1 (show line_Right.f l1 = some true by rw [Right_ok l1 hq.2.1 (by omega) 2000 (by omega), hq.2.2])))
   clear hr1 hc1 a1 e1 f1 hl1 hq
   go_wp2_with (first | (go_at_call 48; refine (show Calls Tryz.prog 48 #[.slice A1 l1.length d1] wr fun e w' => e = .returned (.bool false) ∧ Below wr.heap.size wr w' from Right1_any HC.out.1 HC.out.2.1 HC.out.2.2).mono ?_; rintro e w2 ⟨rfl, hd⟩; have H2 := aS (below_step HB.out hd); clear hd))
   all_goals go_roundg (n - (i + 1) + 1)
   all_goals first | (case measure => have := HK.out; omega) | (case rel => exact ⟨i + 1, by go_num, ⟨rfl, by omega⟩, H2⟩)
  ·have hT : decide (i < n) = false := decide_eq_false hi
   obtain rfl : i = n := by have := HK.out; omega
   clear hi
   go_wp2
   all_goals go_ret
   all_goals exact ⟨rfl, HB.out⟩
theorem ContainsFunc_any (h1 : GL W ok1 (.slice (some ⟨b1, 0, none⟩) L1.length c1) L1) (hs1 : L1.length ≤ 512) (hl : ∀ l ∈ L1, l.length ≤ 1000 ∧ (∀ x ∈ l, 0 ≤ x.f2 ∧ x.f2 ≤ 255) ∧ rightL l = true) :
 Calls Tryz.prog 47 #[.slice (some ⟨b1, 0, none⟩) L1.length c1, .func (.func 48) #[] #[]] W fun e w' => e = .returned (.bool false) ∧ Below W.heap.size W w' := by
 have HI := aS (IndexFunc_any h1 hs1 hl)
 clear h1 hs1 hl
 go_enter Tryz.func47, Tryz.ntmps47
 go_wp2_with (first | (go_at_call 81; go_must (refine HI.out.mono ?_); rintro e w2 ⟨rfl, hd⟩; have H2 := aS hd; clear hd))
 all_goals go_ret
 all_goals exact ⟨rfl, H2.out⟩
end
section
variable {O O2 : Nat → Prop} {W : World} {g g2 : Nat} {G G2 : GV}
theorem Right_any (h : GS O W g G) : Calls Tryz.prog 11 #[.pointer (some ⟨g, 0, none⟩)] W fun e w' => e = .returned (.bool true) ∧ Below W.heap.size W w' := by
 obtain ⟨b, cap, -, -, -, hx, hL, -⟩ := h.open_
 have h2 := (blk_cell hx 2).trans (rfl : _ = some (Value.slice (some ⟨b, 0, none⟩) G.L.length cap))
 have HC := aS (ContainsFunc_any hL h.ok.r2 (fun l hl => ⟨by have := h.ok.len l hl; have := h.ok.c2; omega, fun x hx => (h.ok.w32 l hl x hx).2.2.2, h.ok.rt l hl⟩))
 clear h hx hL
 go_enter Tryz.func11, Tryz.ntmps11
 go_wp2_with (first | (go_at_call 47; go_must (refine HC.out.mono ?_); rintro e w2 ⟨rfl, hd⟩; have H2 := aS hd; clear hd))
 all_goals go_ret
 all_goals exact ⟨rfl, H2.out⟩
theorem eqCur (d : Nat) (w : World) (x0 y0 : Int) (x1 y1 : Int) :
 (Op.equalIn (d + 2) 63 (.agg #[.int .i64 x0, .int .i64 x1]) (.agg #[.int .i64 y0, .int .i64 y1])).run Tryz.prog w = .ok (x0 == y0 && (x1 == y1)) w := by
 refine eqA_of Tryz.underlying63 (by kernel_rfl) ?_
 refine eqf_cons (by rfl) (by go_simp; rfl) (by go_simp; rfl) (by go_simp) ?_
 exact eqf_last (by rfl) (by go_simp; rfl) (by go_simp; rfl) (by go_simp)
attribute [local go_sem high] eqCur
def gSame (G G2 : GV) : Bool := (G.row == G2.row && (G.col == G2.col)) && (decide (G.cols = G2.cols) && decide (G.L = G2.L))
theorem Same_any (h : GS O W g G) (h' : GS O2 W g2 G2) : Calls Tryz.prog 44 #[.pointer (some ⟨g, 0, none⟩), .pointer (some ⟨g2, 0, none⟩)] W fun e w' => e = .returned (.bool (gSame G G2)) ∧ Below W.heap.size W w' := by
 obtain ⟨b, cap, -, -, -, hx, hL, -⟩ := h.open_
 obtain ⟨b2, cap2, -, -, -, hx2, hL2, -⟩ := h'.open_
 have a0 := (blk_cell hx 0).trans (rfl : _ = some (Value.int .i64 G.row))
 have a1 := (blk_cell hx 1).trans (rfl : _ = some (Value.int .i64 G.col))
 have a2 := (blk_cell hx 2).trans (rfl : _ = some (Value.slice (some ⟨b, 0, none⟩) G.L.length cap))
 have a3 := (blk_cell hx 3).trans (rfl : _ = some (Value.int .i64 G.cols))
 have d0 := (blk_cell hx2 0).trans (rfl : _ = some (Value.int .i64 G2.row))
 have d1 := (blk_cell hx2 1).trans (rfl : _ = some (Value.int .i64 G2.col))
 have d2 := (blk_cell hx2 2).trans (rfl : _ = some (Value.slice (some ⟨b2, 0, none⟩) G2.L.length cap2))
 have d3 := (blk_cell hx2 3).trans (rfl : _ = some (Value.int .i64 G2.cols))
 have HE := aS (And.intro hL (And.intro hL2 (And.intro h.ok.r2 (show ∀ l ∈ G.L, l.length ≤ 1000 from fun l hl => by have := h.ok.len l hl; have := h.ok.c2; omega))))
 unfold gSame
 obtain ⟨q, hq⟩ : ∃ q, (G.row == G2.row && (G.col == G2.col)) = q := ⟨_, rfl⟩
 obtain ⟨q2, hq2⟩ : ∃ q2, decide (G.L = G2.L) = q2 := ⟨_, rfl⟩
 rw [hq, hq2]
 have HQ2 := aS hq2
 clear h h' hx hx2 hL hL2 hq2
 cases q
 ·rw [Bool.false_and]
  go_enter Tryz.func44, Tryz.ntmps44
  go_wp2
  refine start_ (n := 32) (S := fun w' => w'.cell? ⟨g, 0, none⟩ = some (.int .i64 G.row) ∧ w'.cell? ⟨g, 1, none⟩ = some (.int .i64 G.col) ∧ w'.cell? ⟨g2, 0, none⟩ = some (.int .i64 G2.row) ∧ w'.cell? ⟨g2, 1, none⟩ = some (.int .i64 G2.col)) (ds := []) (tb 32 0) (by kernel_rfl) rfl rfl ⟨a0, a1, d0, d1⟩ (fun hHeld => ?_)
  refine tP 0 (some 14) (tb 32 1) ?_
  refine tP 1 (some 15) (tb 32 3) ?_
  refine tP 2 (some 16) (tb 32 7) ?_
  refine tP 4 (some 18) (tb 32 23) ?_
  refine tP 5 (some 19) (tb 32 55) ?_
  refine tP 6 (some 20) (tb 32 119) ?_
  refine tK 3 (some 17) (tb 32 127) ?_
  refine tK 7 (some 21) (tb 32 255) ?_
  refine tP 8 (some 22) (tb 32 511) ?_
  refine tP 9 (some 23) (tb 32 1023) ?_
  refine tU 10 (some 24) (tb 32 2047) ?_
  refine tU 11 (some 25) (tb 32 4095) ?_
  refine tU 12 (some 26) (tb 32 8191) ?_
  refine tU 13 (some 27) (tb 32 16383) ?_
  refine tU 14 (some 28) (tb 32 32767) ?_
  refine tU 15 (some 29) (tb 32 65535) ?_
  refine tU 16 (some 30) (tb 32 131071) ?_
  refine tU 17 (some 31) (tb 32 262143) ?_
  refine tU 18 (some 32) (tb 32 524287) ?_
  refine tP 19 (some 33) (tb 32 1048575) ?_
  refine tP 20 (some 34) (tb 32 2097151) ?_
  refine tU 21 (some 35) (tb 32 4194303) ?_
  refine tU 22 (some 36) (tb 32 8388607) ?_
  refine tU 23 (some 37) (tb 32 16777215) ?_
  refine tU 24 (some 38) (tb 32 33554431) ?_
  refine tU 25 (some 39) (tb 32 67108863) ?_
  refine tU 26 (some 40) (tb 32 134217727) ?_
  refine tU 27 (some 41) (tb 32 268435455) ?_
  refine tU 28 (some 42) (tb 32 536870911) ?_
  refine tU 29 (some 43) (tb 32 1073741823) ?_
  refine tP 30 (some 44) (tb 32 2147483647) ?_
  refine tP 31 (some 4) (tb 32 4294967295) ?_
  refine done_ (by kernel_rfl) ?_
  all_goals go_wp2
  all_goals go_ret
  all_goals exact ⟨rfl, bE⟩
 ·rw [Bool.true_and]
  by_cases hc : G.cols = G2.cols
  ·have hcb : ((G.cols : Int) == (G2.cols : Int)) = true := beq_iff_eq.2 (by omega)
   have hcb2 : (G.cols == G2.cols) = true := beq_iff_eq.2 hc
   rw [decide_eq_true hc, Bool.true_and]
   clear hc
   go_enter Tryz.func44, Tryz.ntmps44
   go_wp2
   refine start_ (n := 32) (S := fun w' => w'.cell? ⟨g, 0, none⟩ = some (.int .i64 G.row) ∧ w'.cell? ⟨g, 1, none⟩ = some (.int .i64 G.col) ∧ w'.cell? ⟨g, 2, none⟩ = some (.slice (some ⟨b, 0, none⟩) G.L.length cap) ∧ w'.cell? ⟨g, 3, none⟩ = some (.int .i64 G.cols) ∧ w'.cell? ⟨g2, 0, none⟩ = some (.int .i64 G2.row) ∧ w'.cell? ⟨g2, 1, none⟩ = some (.int .i64 G2.col) ∧ w'.cell? ⟨g2, 2, none⟩ = some (.slice (some ⟨b2, 0, none⟩) G2.L.length cap2) ∧ w'.cell? ⟨g2, 3, none⟩ = some (.int .i64 G2.cols)) (ds := [29]) (tb 32 0) (by kernel_rfl) rfl rfl ⟨a0, a1, a2, a3, d0, d1, d2, d3⟩ (fun hHeld => ?_)
   refine tP 0 (some 14) (tb 32 1) ?_
   refine tP 1 (some 15) (tb 32 3) ?_
   refine tP 2 (some 16) (tb 32 7) ?_
   refine tP 4 (some 18) (tb 32 23) ?_
   refine tP 5 (some 19) (tb 32 55) ?_
   refine tP 6 (some 20) (tb 32 119) ?_
   refine tK 3 (some 17) (tb 32 127) ?_
   refine tK 7 (some 21) (tb 32 255) ?_
   refine tP 8 (some 22) (tb 32 511) ?_
   refine tP 9 (some 23) (tb 32 1023) ?_
   refine tP 10 (some 24) (tb 32 2047) ?_
   refine tP 11 (some 25) (tb 32 4095) ?_
   refine tP 12 (some 26) (tb 32 8191) ?_
   refine tP 14 (some 28) (tb 32 24575) ?_
   refine tP 15 (some 29) (tb 32 57343) ?_
   refine tP 16 (some 30) (tb 32 122879) ?_
   refine tK 13 (some 27) (tb 32 131071) ?_
   refine tK 17 (some 31) (tb 32 262143) ?_
   refine tP 18 (some 32) (tb 32 524287) ?_
   refine tP 19 (some 33) (tb 32 1048575) ?_
   refine tP 20 (some 34) (tb 32 2097151) ?_
   refine tP 21 (some 35) (tb 32 4194303) ?_
   refine tP 22 (some 36) (tb 32 8388607) ?_
   refine tP 23 (some 37) (tb 32 16777215) ?_
   refine tP 25 (some 39) (tb 32 50331647) ?_
   refine tP 26 (some 40) (tb 32 117440511) ?_
   refine tP 27 (some 41) (tb 32 251658239) ?_
   refine tK 24 (some 38) (tb 32 268435455) ?_
   refine tK 28 (some 42) (tb 32 536870911) ?_
   refine last_ (i := 29) (N := some 43) (tb 32 1073741823) rfl rfl (by kernel_rfl) (by decide) (fun K hK => ?_)
   refine gO Tryz.func76 #[.slice (some ⟨b, 0, none⟩) G.L.length cap, .slice (some ⟨b2, 0, none⟩) G2.L.length cap2, .func (.func 77) #[] #[]] ?_
   with_reducible refine (EqualFunc_any (HE.out.1.step (fun k _ hlt => (show Below W.heap.size W _ from bE).block k hlt)) (HE.out.2.1.step (fun k _ hlt => (show Below W.heap.size W _ from bE).block k hlt)) HE.out.2.2.1 HE.out.2.2.2).mono ?_
   rintro e w5 ⟨rfl, hb⟩
   refine ⟨_, rfl, ?_⟩
   rw [HQ2.out]
   have H5 := aS (show Below W.heap.size W w5 from below_step bE hb)
   clear hb
   refine hK.out _ _ ?_
   clear hK K
   refine nm ?_
   refine tP 30 (some 44) (tb 32 2147483647) ?_
   refine tP 31 (some 4) (tb 32 4294967295) ?_
   refine done_ (by kernel_rfl) ?_
   all_goals go_wp2
   all_goals go_ret
   all_goals exact ⟨rfl, H5.out⟩
  ·have hcb : ((G.cols : Int) == (G2.cols : Int)) = false := beq_eq_false_iff_ne.2 (by omega)
   have hcb2 : (G.cols == G2.cols) = false := beq_eq_false_iff_ne.2 hc
   rw [decide_eq_false hc, Bool.false_and]
   clear hc
   go_enter Tryz.func44, Tryz.ntmps44
   go_wp2
   refine start_ (n := 32) (S := fun w' => w'.cell? ⟨g, 0, none⟩ = some (.int .i64 G.row) ∧ w'.cell? ⟨g, 1, none⟩ = some (.int .i64 G.col) ∧ w'.cell? ⟨g, 3, none⟩ = some (.int .i64 G.cols) ∧ w'.cell? ⟨g2, 0, none⟩ = some (.int .i64 G2.row) ∧ w'.cell? ⟨g2, 1, none⟩ = some (.int .i64 G2.col) ∧ w'.cell? ⟨g2, 3, none⟩ = some (.int .i64 G2.cols)) (ds := []) (tb 32 0) (by kernel_rfl) rfl rfl ⟨a0, a1, a3, d0, d1, d3⟩ (fun hHeld => ?_)
   refine tP 0 (some 14) (tb 32 1) ?_
   refine tP 1 (some 15) (tb 32 3) ?_
   refine tP 2 (some 16) (tb 32 7) ?_
   refine tP 4 (some 18) (tb 32 23) ?_
   refine tP 5 (some 19) (tb 32 55) ?_
   refine tP 6 (some 20) (tb 32 119) ?_
   refine tK 3 (some 17) (tb 32 127) ?_
   refine tK 7 (some 21) (tb 32 255) ?_
   refine tP 8 (some 22) (tb 32 511) ?_
   refine tP 9 (some 23) (tb 32 1023) ?_
   refine tP 10 (some 24) (tb 32 2047) ?_
   refine tP 11 (some 25) (tb 32 4095) ?_
   refine tP 12 (some 26) (tb 32 8191) ?_
   refine tP 14 (some 28) (tb 32 24575) ?_
   refine tP 15 (some 29) (tb 32 57343) ?_
   refine tP 16 (some 30) (tb 32 122879) ?_
   refine tK 13 (some 27) (tb 32 131071) ?_
   refine tK 17 (some 31) (tb 32 262143) ?_
   refine tP 18 (some 32) (tb 32 524287) ?_
   refine tP 19 (some 33) (tb 32 1048575) ?_
   refine tP 20 (some 34) (tb 32 2097151) ?_
   refine tU 21 (some 35) (tb 32 4194303) ?_
   refine tU 22 (some 36) (tb 32 8388607) ?_
   refine tU 23 (some 37) (tb 32 16777215) ?_
   refine tU 24 (some 38) (tb 32 33554431) ?_
   refine tU 25 (some 39) (tb 32 67108863) ?_
   refine tU 26 (some 40) (tb 32 134217727) ?_
   refine tU 27 (some 41) (tb 32 268435455) ?_
   refine tU 28 (some 42) (tb 32 536870911) ?_
   refine tU 29 (some 43) (tb 32 1073741823) ?_
   refine tP 30 (some 44) (tb 32 2147483647) ?_
   refine tP 31 (some 4) (tb 32 4294967295) ?_
   refine done_ (by kernel_rfl) ?_
   all_goals go_wp2
   all_goals go_ret
   all_goals exact ⟨rfl, bE⟩
end
end Go.Proofs.YtblcmcdifgclcaaGreat.Grd
