/- GridPlays: what its proof leads to. No condition. -/
import Derived.Test.YtblcmcdifgclcaaGreatG6qGridPlays
import Derived.Test.YtblcmcdifgclcaaGreatG23qGridPlays
import Derived.Test.YtblcmcdifgclcaaGreatG24qGridPlays
import Derived.Test.YtblcmcdifgclcaaGreatG25qGridPlays
import Derived.Test.YtblcmcdifgclcaaGreatG27qGridPlays
import Derived.Test.YtblcmcdifgclcaaGreatG28qGridPlays
namespace Go.Proofs.YtblcmcdifgclcaaGreat.Grd
open Go.RowKit Go.Proofs.YtblcmcdifgclcaaGreat Go.Proofs.YtblcmcdifgclcaaGreat.PGridPlays Go.Proofs.YtblcmcdifgclcaaGreatW.PrintWords Go.Proofs.YtblcmcdifgclcaaGreatW.PrintLast Go.Proofs.YtblcmcdifgclcaaGreatW.PrintMore
set_option linter.unusedVariables false
set_option linter.unusedSimpArgs false
set_option maxRecDepth 100000
set_option maxHeartbeats 4000000
attribute [local go_sem] isSome_setCell max2_int min2_int max_two min_two
def fitP (G : GV) (rows cols : Nat) (i : Nat) : GV := ⟨(G.L.take i).map (fun l => fitC l (cols : Int)) ++ List.replicate (rows - i) (List.replicate (lenC (cols : Int)) (blankP 0 0 0)), cols, 0, 0⟩
theorem fitP_len (G : GV) {rows : Nat} (cols : Nat) {i : Nat} (h1 : i ≤ rows) (h2 : i ≤ G.L.length) : (fitP G rows cols i).L.length = rows := by
 unfold fitP
 simp only [List.length_append, List.length_map, List.length_take, List.length_replicate]
 omega
theorem fitP_ok {G : GV} (h : G.ok) {rows cols i : Nat} (hr : 1 ≤ rows ∧ rows ≤ 512) (hc : 1 ≤ cols ∧ cols ≤ 512) (h1 : i ≤ rows) (h2 : i ≤ G.L.length) : (fitP G rows cols i).ok := by
 have hlen := fitP_len G cols h1 h2
 have hlc : lenC (cols : Int) = cols := by rw [lenC_id (by omega)]; simp
 have hm : ∀ l ∈ (fitP G rows cols i).L, (∃ k ∈ G.L, fitC k (cols : Int) = l) ∨ l = List.replicate (lenC (cols : Int)) (blankP 0 0 0) := by
  intro l hl
  rcases List.mem_append.1 hl with hl | hl
  ·obtain ⟨k, hk, rfl⟩ := List.mem_map.1 hl
   exact .inl ⟨k, List.mem_of_mem_take hk, rfl⟩
  ·exact .inr (List.mem_replicate.1 hl).2
 refine ⟨by omega, by omega, hc.1, hc.2, fun l hl => ?_, fun l hl => ?_, fun l hl => ?_, ⟨Int.le_refl _, by rw [hlen]; show (0 : Int) < _; omega⟩, ⟨Int.le_refl _, by show (0 : Int) < (cols : Int); omega⟩⟩
 ·rcases hm l hl with ⟨k, hk, rfl⟩ | rfl
  ·show (fitC k (cols : Int)).length = cols; rw [fit_len, hlc]
  ·show (List.replicate _ _).length = cols; rw [List.length_replicate, hlc]
 ·rcases hm l hl with ⟨k, hk, rfl⟩ | rfl
  ·exact w32_fit (h.w32 k hk) _
  ·intro x hx; rw [(List.mem_replicate.1 hx).2]; exact w32_blankP _ _ _
 ·rcases hm l hl with ⟨k, hk, rfl⟩ | rfl
  ·exact right_fit (h.rt k hk) _
  ·exact right_blanks _ (lenC_eq (cols : Int)).2
theorem fitP_set {G : GV} {rows cols i : Nat} {l : List CS} (h1 : i < rows) (hl : G.L[i]? = some l) : gSet (fitP G rows cols i) (i : Int) (fitC l (cols : Int)) = fitP G rows cols (i + 1) := by
 have h2 := (List.getElem?_eq_some_iff.1 hl).1
 unfold gSet fitP
 simp only [Int.toNat_natCast]
 congr 1
 have hle : ((G.L.take i).map (fun l => fitC l (cols : Int))).length = i := by rw [List.length_map, List.length_take]; omega
 rw [List.set_append_right _ _ (by rw [hle]; exact Nat.le_refl _), hle, Nat.sub_self, take_more hl, List.map_append, List.append_assoc]
 congr 1
 rw [show rows - i = (rows - (i + 1)) + 1 by omega, List.replicate_succ]
 rfl
theorem fitP_all {G : GV} {rows cols : Nat} (i : Nat) (hi : i = min rows G.L.length) : gMove (fitP G rows cols i) G.row G.col = gFit G (rows : Int) (cols : Int) := by
 unfold gFit fitP
 simp only [Int.toNat_natCast]
 congr 2
 subst hi
 rcases Nat.le_total rows G.L.length with h | h
 ·rw [Nat.min_eq_left h, Nat.sub_self, Nat.sub_eq_zero_of_le h]
 ·rw [Nat.min_eq_right h, List.take_of_length_le (Nat.le_refl _), List.take_of_length_le h]
theorem fitP_zero (G : GV) (rows cols : Nat) : fitP G rows cols 0 = gNew (rows : Int) (cols : Int) := by
 unfold fitP gNew
 simp
theorem Move_fresh {w W : World} {g : Nat} {G : GV} (h : Fresh w W g G) (r c : Int) : Calls Tryz.prog 39 #[.pointer (some ⟨g, 0, none⟩), .int .i64 r, .int .i64 c] W fun e w' => e = .returned (.tuple #[]) ∧ Fresh w w' g (gMove G r c) :=
 (Move_any h.1 r c).mono fun e w' ⟨a, b⟩ => ⟨a, h.then_ b⟩
theorem Fit_any {O : Nat → Prop} {w : World} {g : Nat} {G : GV} (h : GS O w g G) (rows cols : Int) (hs : gSize rows cols = true) :
 Calls Tryz.prog 25 #[.pointer (some ⟨g, 0, none⟩), .int .i64 rows, .int .i64 cols] w fun e w' => ∃ g1, e = .returned (.tuple #[.pointer (some ⟨g1, 0, none⟩), .int .i64 0]) ∧ Fresh w w' g1 (gFit G rows cols) := by
 have HZ := aS hs
 unfold gSize at hs
 rw [Bool.and_eq_true, decide_eq_true_eq, decide_eq_true_eq] at hs
 obtain ⟨n, rfl⟩ : ∃ n : Nat, rows = (n : Int) := ⟨rows.toNat, by omega⟩
 obtain ⟨m, rfl⟩ : ∃ m : Nat, cols = (m : Int) := ⟨cols.toNat, by omega⟩
 have HNM := aS (show (1 ≤ n ∧ n ≤ 512) ∧ (1 ≤ m ∧ m ≤ 512) by omega)
 have HS := aS h
 obtain ⟨b, cap, hb, hbg, hcap, hx, hL, hrow⟩ := h.open_
 have HR := aS hrow
 have HX := aS hx
 obtain ⟨k, hk⟩ : ∃ k, min n G.L.length = k := ⟨_, rfl⟩
 have HKK := aS hk
 have hmin : (if (G.L.length : Int) < (n : Int) then (G.L.length : Int) else (n : Int)) = (k : Int) := by split <;> omega
 have hmin2 : (if G.L.length < n then (G.L.length : Int) else (n : Int)) = (k : Int) := by split <;> omega
 obtain ⟨hcut, -, -⟩ := cut_take (P := Tryz.prog) kL 64 41 .i64 Tryz.underlying64 infoLn (some ⟨b, 0, none⟩) cap G.L (k : Int) (by omega) (by omega) hcap
 rw [show (G.L.take (k : Int).toNat).length = k by rw [Int.toNat_natCast, List.length_take]; omega] at hcut
 clear hb hbg hcap hx hL hrow hk hs h
 go_enter Tryz.func25, Tryz.ntmps25
 go_wp2_with (first | (go_at_call 5; refine (New_any (n : Int) (m : Int) HZ.out w).mono ?_; rintro e w1 ⟨g1, rfl, hF⟩; have H1 := aS hF; have h2 := (blk_cell (blk_below HX.out hF.2) 2).trans (rfl : _ = some (Value.slice (some ⟨b, 0, none⟩) G.L.length cap)); clear hF))
 refine start_ (n := 14) (S := fun w' => w'.cell? ⟨g, 2, none⟩ = some (.slice (some ⟨b, 0, none⟩) G.L.length cap)) (ds := []) (tb 14 0) (by kernel_rfl) rfl rfl (h2) (fun hHeld => ?_)
 refine tP 0 (some 23) (tb 14 1) ?_
 refine tP 1 (some 24) (tb 14 3) ?_
 refine tP 2 (some 25) (tb 14 7) ?_
 refine tP 4 (some 27) (tb 14 23) ?_
 refine tP 5 (some 28) (tb 14 55) ?_
 refine tP 6 (some 29) (tb 14 119) ?_
 refine tP 7 (some 30) (tb 14 247) ?_
 refine tP 13 (some 36) (tb 14 8439) ?_
 refine take_ (i := 3) (N := some 26) (v := ?_) (a' := ?_) (tb 14 8447) rfl rfl (by kernel_rfl) (fun _ _ _ h => h) (Or.inl ⟨by rfl, ?_⟩) hHeld ?_ ?_
 rotate_left
 ·intro w' s0
  go_simp
  with_reducible rfl
 rotate_left
 ·simp only [Act.put, List.setIfInBounds_toArray, List.set_cons_zero, List.set_cons_succ, i64_w, i32_w]
  rfl
 refine take_ (i := 8) (N := some 31) (v := ?_) (a' := ?_) (tb 14 8703) rfl rfl (by kernel_rfl) (fun _ _ _ h => h) (Or.inl ⟨by rfl, ?_⟩) hHeld ?_ ?_
 rotate_left
 ·intro w' s0
  go_simp
  with_reducible rfl
 rotate_left
 ·simp only [Act.put, List.setIfInBounds_toArray, List.set_cons_zero, List.set_cons_succ, i64_w, i32_w]
  rfl
 refine tP 9 (some 32) (tb 14 9215) ?_
 refine tP 10 (some 33) (tb 14 10239) ?_
 refine tP 11 (some 34) (tb 14 12287) ?_
 refine tP 12 (some 35) (tb 14 16383) ?_
 refine done_ (by kernel_rfl) ?_
 all_goals go_wp2
 have HB0 := aS (show Fresh w w1.drew g1 (fitP G n m 0) by rw [fitP_zero]; exact H1.out.below (below_drew (Below.refl _ _)))
 obtain ⟨wl, hwl⟩ : ∃ wl, w1.drew = wl := ⟨_, rfl⟩
 rw [hwl] at HB0 ⊢
 clear hwl h2 hHeld H1 hcut hmin hmin2
 go_loopg [36] (k + 1) (fun kq v36 w' => ∃ (i : Nat), v36 = .int .i64 i ∧ Aside0 (kq = k - i + 1 ∧ i ≤ k) ∧ Aside0 (Fresh w w' g1 (fitP G n m i)))
 case atStart => exact ⟨0, by go_num, ⟨by omega, by omega⟩, HB0⟩
 case round =>
  obtain ⟨i, rfl, HK, HB⟩ := hrel
  by_cases hi : i < k
  ·have hT : decide (i < k) = true := decide_eq_true (by omega)
   have hin : i < n := by have := HKK.out; omega
   have hw1 : wrap64 ((i : Int) + 1) = ((i + 1 : Nat) : Int) := by rw [w64 (by omega) (by have := HNM.out; omega)]; omega
   obtain ⟨l, hl⟩ : ∃ l, G.L[i]? = some l := ⟨_, List.getElem?_eq_getElem (by have := HKK.out; omega)⟩
   obtain ⟨A, c, hcl, -, hc, hF⟩ := HR.out i l hl
   have hcl2 := (HB.out.2.cell (World.block_lt_of_cell? w _ hcl)).trans hcl
   have hll : l.length ≤ 512 := by have := HS.out.ok.len l (List.mem_of_getElem? hl); have := HS.out.ok.c2; omega
   have HC := aS (And.intro (Kd.C_below (Kd.F_now hF) HB.out.2) (And.intro hc (Fit_ok l (m : Int) (by omega) 1000 (by omega))))
   have HLL := aS (And.intro hl (And.intro hin (fitP_ok HS.out.ok HNM.out.1 HNM.out.2 (i := i + 1) hin (by have := HKK.out; omega))))
   obtain ⟨b1, cap1, hb1, hbg1, hcap1, hx1, hL1, hrow1⟩ := HB.out.1.open_
   have hlen := fitP_len G (rows := n) m (i := i) (by omega) (by have := HKK.out; omega)
   obtain ⟨l1, hl1⟩ : ∃ l1, (fitP G n m i).L[i]? = some l1 := ⟨_, List.getElem?_eq_getElem (by omega)⟩
   obtain ⟨A0, c0, hk1, hz1, -, -⟩ := hrow1 i l1 hl1
   have HQ := aS (And.intro hx1 (And.intro hL1 (And.intro hb1 hbg1)))
   have hg2 := (blk_cell hx1 2).trans (rfl : _ = some (Value.slice (some ⟨b1, 0, none⟩) (fitP G n m i).L.length cap1))
   rw [hlen] at hg2
   have HT := aS (And.intro (World.block_lt_of_cell? wr _ hk1) (And.intro hk1 (And.intro hz1 hg2)))
   have HLE := aS hlen
   clear hcl hc hF hl hx1 hL1 hrow1 hb1 hbg1 hcap1 hlen hk1 hz1 hl1
   go_wp2
   refine start_ (n := 10) (S := fun w' => w'.cell? ⟨g1, 2, none⟩ = some (.slice (some ⟨b1, 0, none⟩) n cap1)) (ds := [9]) (tb 10 0) (by kernel_rfl) rfl rfl (hg2) (fun hHeld => ?_)
   refine tP 0 (some 41) (tb 10 1) ?_
   refine tP 1 (some 42) (tb 10 3) ?_
   refine tP 2 (some 43) (tb 10 7) ?_
   refine tP 4 (some 45) (tb 10 23) ?_
   refine tP 5 (some 46) (tb 10 55) ?_
   refine tP 6 (some 47) (tb 10 119) ?_
   refine take_ (i := 3) (N := some 44) (v := ?_) (a' := ?_) (tb 10 127) rfl rfl (by kernel_rfl) (fun _ _ _ h => h) (Or.inl ⟨by rfl, ?_⟩) hHeld ?_ ?_
   rotate_left
   ·intro w' s0
    go_simp
    with_reducible rfl
   rotate_left
   ·simp only [Act.put, List.setIfInBounds_toArray, List.set_cons_zero, List.set_cons_succ, i64_w, i32_w]
    rfl
   refine sO 7 (some 48) (tb 10 255) (fun K hK => ?_)
   refine gO Tryz.func61 #[.slice A l.length c, .int .i64 m] ?_
   with_reducible refine (line_Fit.calls 1000 A c l (m : Int) _ _ (Kd.C_below HC.out.1 bE) HC.out.2.1 HC.out.2.2).mono ?_
   rintro e w6 ⟨v6, rfl, hR, hb⟩
   refine ⟨_, rfl, ?_⟩
   obtain ⟨A6, c6, rfl, hc6, -⟩ := Kd.R_reads hR
   have H6 := aS (And.intro (show Below wr.heap.size wr w6 from below_step bE hb) (And.intro hc6 (show Kd.F kCl w6 (fun k => wr.heap.size ≤ k) A6 (fitC l (m : Int)).length (fitC l (m : Int)) from Kd.F_mono (Kd.R_F (Kd.R_bound hR)) (fun k hk => hk.2.1))))
   have hk6 := (H6.out.1.cell HT.out.1).trans HT.out.2.1
   have hz6 := (H6.out.1.frozen HT.out.1).trans HT.out.2.2.1
   clear hR hb hc6
   refine hK.out _ _ ((pw_cell_below H6.out.1 HT.out.2.2.2)) (fun hHeld => ?_)
   clear hK K
   refine nm ?_
   refine tP 8 (some 49) (tb 10 511) ?_
   refine last_ (i := 9) (N := none) (tb 10 1023) rfl rfl (by kernel_rfl) (by decide) (fun K hK => ?_)
   refine skip_ (w1 := ?_) (by rfl) rfl ?_ ?_
   rotate_left
   ·go_simp
    rfl
   refine hK.out _ _ ?_
   clear hK K
   refine done_ (by kernel_rfl) ?_
   all_goals go_wp2
   all_goals go_roundg (k - (i + 1) + 1)
   all_goals first | (case measure => have := HK.out; omega) | (case rel => exact ⟨i + 1, by go_num, ⟨rfl, by omega⟩, ⟨by
    have h := HB.out.1.turned HQ.out.1 HQ.out.2.1 HQ.out.2.2 H6.out.1 H6.out.2.1 H6.out.2.2 (n := i) (by have := HLE.out; omega) (by rw [fitP_set HLL.out.2.1 HLL.out.1]; exact HLL.out.2.2)
    rw [fitP_set HLL.out.2.1 HLL.out.1] at h
    exact HB.out.then_ h⟩⟩)
  ·have hT : decide (i < k) = false := decide_eq_false hi
   obtain rfl : i = k := by have := HK.out; omega
   clear hi
   have hg0 := (blk_cell (blk_below HX.out HB.out.2) 0).trans (rfl : _ = some (Value.int .i64 G.row))
   have hg1 := (blk_cell (blk_below HX.out HB.out.2) 1).trans (rfl : _ = some (Value.int .i64 G.col))
   go_wp2
   refine start_ (n := 12) (S := fun w' => w'.cell? ⟨g, 0, none⟩ = some (.int .i64 G.row) ∧ w'.cell? ⟨g, 1, none⟩ = some (.int .i64 G.col)) (ds := [11]) (tb 12 0) (by kernel_rfl) rfl rfl ⟨hg0, hg1⟩ (fun hHeld => ?_)
   refine tP 0 (some 51) (tb 12 1) ?_
   refine tP 1 (some 52) (tb 12 3) ?_
   refine tP 2 (some 53) (tb 12 7) ?_
   refine tP 3 (some 54) (tb 12 15) ?_
   refine tP 4 (some 55) (tb 12 31) ?_
   refine tP 6 (some 57) (tb 12 95) ?_
   refine tP 7 (some 58) (tb 12 223) ?_
   refine tP 8 (some 59) (tb 12 479) ?_
   refine tP 9 (some 60) (tb 12 991) ?_
   refine tK 5 (some 56) (tb 12 1023) ?_
   refine tK 10 (some 61) (tb 12 2047) ?_
   refine last_ (i := 11) (N := some 62) (tb 12 4095) rfl rfl (by kernel_rfl) (by decide) (fun K hK => ?_)
   refine gO Tryz.func39 #[.pointer (some ⟨g1, 0, none⟩), .int .i64 G.row, .int .i64 G.col] ?_
   with_reducible refine (Move_fresh (HB.out.below bE) G.row G.col).mono ?_
   rintro e w6 ⟨rfl, hd⟩
   refine ⟨_, rfl, ?_⟩
   have H6 := aS hd
   clear hd
   refine hK.out _ _ ?_
   clear hK K
   refine nm ?_
   refine done_ (by kernel_rfl) ?_
   all_goals go_wp2
   all_goals go_ret2
   all_goals exact ⟨g1, rfl, by have h := H6.out; rw [fitP_all i HKK.out.symm] at h; exact h⟩
theorem Fit_no {O : Nat → Prop} {w : World} {g : Nat} {G : GV} (h : GS O w g G) (rows cols : Int) (hs : gSize rows cols = false) :
 Calls Tryz.prog 25 #[.pointer (some ⟨g, 0, none⟩), .int .i64 rows, .int .i64 cols] w fun e w' => e = .returned (.tuple #[.pointer none, .int .i64 11]) ∧ Below w.heap.size w w' := by
 have HZ := aS hs
 clear hs h
 go_enter Tryz.func25, Tryz.ntmps25
 go_wp2_with (first | (go_at_call 5; refine (New_no rows cols HZ.out w).mono ?_; rintro e w1 ⟨rfl, hF⟩; have H1 := aS hF; clear hF))
 all_goals go_ret2
 all_goals exact ⟨rfl, H1.out⟩
end Go.Proofs.YtblcmcdifgclcaaGreat.Grd
