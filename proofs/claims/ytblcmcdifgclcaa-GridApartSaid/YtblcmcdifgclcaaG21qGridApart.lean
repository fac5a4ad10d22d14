/- GridApart: what its proof leads to. No condition. -/
import Derived.Test.YtblcmcdifgclcaaG20qGridApart
import Derived.Test.YtblcmcdifgclcaaG8qGridApart
import Derived.ArgAppend
import Derived.Test.YtblcmcdifgclcaaG4qGridApart
namespace Go.Proofs.Ytblcmcdifgclcaa.Grd
open Go.RowKit Go.Proofs.Ytblcmcdifgclcaa Go.Proofs.Ytblcmcdifgclcaa.PGridSame Go.Proofs.YtblcmcdifgclcaaW.PrintWords Go.Proofs.YtblcmcdifgclcaaW.PrintLast Go.Proofs.YtblcmcdifgclcaaW.PrintMore
set_option linter.unusedVariables false
set_option linter.unusedSimpArgs false
set_option maxRecDepth 100000
set_option maxHeartbeats 4000000
attribute [local go_sem] isSome_setCell max2_int min2_int max_two min_two
theorem Clone_ok (l : List CS) (h : l.length ≤ 1000) : cell_Cell_95.f l = some l := by unfold cell_Cell_95.f; rw [if_pos (by omega)]
theorem take_more {α : Type} {L : List α} {i : Nat} {l : α} (h : L[i]? = some l) : L.take (i + 1) = L.take i ++ [l] := by rw [List.take_add_one, h]; rfl
theorem Copy_any {O : Nat → Prop} {w : World} {g : Nat} {G : GV} (h : GS O w g G) :
 Calls Try.prog 73 #[.pointer (some ⟨g, 0, none⟩)] w fun e w' => ∃ g1, e = .returned (.pointer (some ⟨g1, 0, none⟩)) ∧ Fresh w w' g1 G := by
 obtain ⟨b, cap, hb, hbg, hcap, hx, hL, hrow⟩ := h.open_
 have h0 := (blk_cell hx 0).trans (rfl : _ = some (Value.int .i64 G.row))
 have h1 := (blk_cell hx 1).trans (rfl : _ = some (Value.int .i64 G.col))
 have h2 := (blk_cell hx 2).trans (rfl : _ = some (Value.slice (some ⟨b, 0, none⟩) G.L.length cap))
 have h3 := (blk_cell hx 3).trans (rfl : _ = some (Value.int .i64 G.cols))
 have HR := aS hrow
 clear hb hbg hcap hx hL hrow
 have HS := aS h
 have hgl := h.lt
 clear h
 go_enter Try.func73, Try.ntmps73
 go_wp2
 refine start_ (n := 11) (S := fun w' => w'.cell? ⟨g, 0, none⟩ = some (.int .i64 G.row) ∧ w'.cell? ⟨g, 1, none⟩ = some (.int .i64 G.col) ∧ w'.cell? ⟨g, 3, none⟩ = some (.int .i64 G.cols)) (ds := [9]) (tb 11 0) (by kernel_rfl) rfl rfl ⟨h0, h1, h3⟩ (fun hHeld => ?_)
 refine tP 0 (some 8) (tb 11 1) ?_
 refine tP 1 (some 9) (tb 11 3) ?_
 refine tP 2 (some 10) (tb 11 7) ?_
 refine tP 4 (some 12) (tb 11 23) ?_
 refine tP 5 (some 13) (tb 11 55) ?_
 refine tP 6 (some 14) (tb 11 119) ?_
 refine tK 3 (some 11) (tb 11 127) ?_
 refine tK 7 (some 15) (tb 11 255) ?_
 refine tP 8 (some 16) (tb 11 511) ?_
 refine last_ (i := 9) (N := some 17) (tb 11 1023) rfl rfl (by kernel_rfl) (by decide) (fun K hK => ?_)
 refine value_ (w1 := ?_) (v := ?_) (by rfl) rfl ?_ ?_
 rotate_left 2
 ·go_simp
  constructor
  ·rfl
  ·rfl
 refine hK.out _ _ ?_
 clear hK K
 refine nm ?_
 refine tP 10 (some 3) (tb 11 2047) ?_
 refine done_ (by kernel_rfl) ?_
 all_goals go_wp2
 obtain ⟨g1, hg1⟩ : ∃ g1, w.heap.size = g1 := ⟨_, rfl⟩
 have HB0 := aS (show GB w ((w.alloc (.cells #[.int .i64 G.row, .int .i64 G.col, .slice none 0 0, .int .i64 G.cols] 139 (0, 0))).drew) g1 G.row G.col G.cols (.slice none 0 0) [] by rw [← hg1]; exact (GB.new (Below.refl _ _) G.row G.col G.cols).below (below_drew (Below.refl _ _)))
 obtain ⟨wl, hwl⟩ : ∃ wl, (w.alloc (.cells #[.int .i64 G.row, .int .i64 G.col, .slice none 0 0, .int .i64 G.cols] 139 (0, 0))).drew = wl := ⟨_, rfl⟩
 have HG1 := aS hg1
 rw [hwl] at HB0 ⊢
 try rw [hg1]
 clear hg1 hwl hgl h0 h1 h2 h3 hHeld
 have HR2 := aS HS.out.ok.r2
 obtain ⟨n, hn⟩ : ∃ n, G.L.length = n := ⟨_, rfl⟩
 have HN := aS hn
 rw [hn]
 clear hn
 go_loopg [23] (n + 1) (fun kq v23 w' => ∃ (i : Nat) (v : Value), v23 = .int .i64 i ∧ Aside0 (kq = n - i + 1 ∧ i ≤ n) ∧ Aside0 (GB w w' g1 G.row G.col G.cols v (G.L.take i)))
 case atStart => exact ⟨0, _, by go_num, ⟨by omega, by omega⟩, HB0⟩
 case round =>
  obtain ⟨i, v, rfl, HK, HB⟩ := hrel
  by_cases hi : i < n
  ·have hT : decide (i < n) = true := decide_eq_true (by omega)
   have hw1 : wrap64 ((i : Int) + 1) = ((i + 1 : Nat) : Int) := by rw [w64 (by omega) (by have := HR2.out; have := HN.out; omega)]; omega
   have HI := aS hi
   have hc2 := HB.out.cell.1
   obtain ⟨l, hl⟩ : ∃ l, G.L[i]? = some l := ⟨_, List.getElem?_eq_getElem (by have := HN.out; omega)⟩
   obtain ⟨A, c, hcl, -, hc, hF⟩ := HR.out i l hl
   have hcl2 := (HB.out.hb.cell (World.block_lt_of_cell? w _ hcl)).trans hcl
   have HC := aS (And.intro (Kd.C_below (Kd.F_now hF) HB.out.hb) (And.intro hc (Clone_ok l (by have := HS.out.ok.len l (List.mem_of_getElem? hl); have := HS.out.ok.c2; omega))))
   have HLL := aS hl
   clear hcl hc hF hl
   go_wp2
   refine start_ (n := 12) (S := fun w' => w'.cell? ⟨g1, 2, none⟩ = some v) (ds := [8, 11]) (tb 12 0) (by kernel_rfl) rfl rfl (hc2) (fun hHeld => ?_)
   refine tP 0 (some 27) (tb 12 1) ?_
   refine tP 1 (some 28) (tb 12 3) ?_
   refine tP 2 (some 29) (tb 12 7) ?_
   refine tP 3 (some 30) (tb 12 15) ?_
   refine tP 5 (some 32) (tb 12 47) ?_
   refine take_ (i := 4) (N := some 31) (v := ?_) (a' := ?_) (tb 12 63) rfl rfl (by kernel_rfl) (fun _ _ _ h => h) (Or.inl ⟨by rfl, ?_⟩) hHeld ?_ ?_
   rotate_left
   ·intro w' s0
    go_simp
    with_reducible rfl
   rotate_left
   ·simp only [Act.put, List.setIfInBounds_toArray, List.set_cons_zero, List.set_cons_succ, i64_w, i32_w]
    rfl
   refine sO 6 (some 33) (tb 12 127) (fun K hK => ?_)
   refine gO Try.func95 #[.slice A l.length c] ?_
   with_reducible refine (cell_Cell_95.calls A c l l _ (Kd.C_below HC.out.1 bE) HC.out.2.1 HC.out.2.2).mono ?_
   rintro e w6 ⟨v6, rfl, hR, hb⟩
   refine ⟨_, rfl, ?_⟩
   obtain ⟨A6, c6, rfl, hc6, -⟩ := Kd.R_reads hR
   have H6 := aS (And.intro (HB.out.below (below_step bE hb)) (show Kd.FK kL w6 (fun k => wr.heap.size ≤ k) l [.slice A6 l.length c6] from Kd.FK_slice_mk hc6 (Kd.F_mono (Kd.R_F (Kd.R_bound hR)) (fun k hk => hk.2.1))))
   clear hR hb hc6
   refine hK.out _ _ (H6.out.1.cell.1) (fun hHeld => ?_)
   clear hK K
   refine nm ?_
   refine sO 7 (some 34) (tb 12 255) (fun K hK => ?_)
   refine value_ (w1 := ?_) (v := ?_) (by rfl) rfl ?_ ?_
   rotate_left 2
   ·go_simp
    constructor
    ·rfl
    ·rfl
   refine hK.out _ _ ((H6.out.1.below bE).cell.1) (fun hHeld => ?_)
   clear hK K
   refine nm ?_
   refine last_ (i := 8) (N := some 35) (tb 12 511) rfl rfl (by kernel_rfl) (by decide) (fun K hK => ?_)
   refine Kd.N_append_step kL (w0 := w6) (g1 + 1) (by rfl) (.tmp 31) (.tmp 34) 137 58 (.slice none 0 0) 24 (by rfl) Try.underlying137 infoLn rfl (by decide) (by omega) v (G.L.take i) l [.slice A6 l.length c6] (fun k => g1 < k) (fun k => wr.heap.size ≤ k) (by rfl) (by rfl) (Kd.FK_below H6.out.2 bE) ?hokp ?hfresh (Kd.N_below H6.out.1.rows bE) bE ?hsz ?hlen ?_
   case hokp => intro k hk; exact ⟨Nat.lt_of_lt_of_le HB.out.lt hk, fun e => by have := Kd.N_lt HB.out.rows k e.symm; omega⟩
   case hfresh => intro k hk; exact Nat.lt_of_lt_of_le H6.out.1.lt hk
   case hsz => exact H6.out.1.lt
   case hlen => have := HR2.out; have := HN.out; have := HI.out; rw [List.length_take]; omega
   intro v8 w8 ho hb hg8 hat
   obtain ⟨A8, c8, e8⟩ := Kd.N_slice ho
   generalize (G.L.take i ++ [l]).length = n8 at e8
   subst e8
   have H8 := aS (H6.out.1.more ho hg8)
   have hc8 := H8.out.1
   have hz8 := H8.out.2.1
   clear ho hb hg8 hat
   refine hK.out _ _ ?_
   clear hK K
   refine nm ?_
   refine tP 9 (some 36) (tb 12 1023) ?_
   refine tP 10 (some 37) (tb 12 2047) ?_
   refine last_ (i := 11) (N := none) (tb 12 4095) rfl rfl (by kernel_rfl) (by decide) (fun K hK => ?_)
   refine skip_ (w1 := ?_) (by rfl) rfl ?_ ?_
   rotate_left
   ·go_simp
    rfl
   refine hK.out _ _ ?_
   clear hK K
   refine done_ (by kernel_rfl) ?_
   all_goals go_wp2
   all_goals go_roundg (n - (i + 1) + 1)
   all_goals first | (case measure => have := HK.out; have := HI.out; omega) | (case rel => exact ⟨i + 1, _, by go_num, ⟨rfl, by have := HI.out; omega⟩, ⟨by have h := H8.out.2.2; rwa [← take_more HLL.out] at h⟩⟩)
  ·have hT : decide (i < n) = false := decide_eq_false hi
   obtain rfl : i = n := by have := HK.out; omega
   clear hi
   go_wp2
   all_goals go_ret
   refine ⟨g1, rfl, ?_⟩
   have h := HB.out
   rw [← HN.out, List.take_length] at h
   exact h.done HS.out.ok
end Go.Proofs.Ytblcmcdifgclcaa.Grd
namespace Go.Proofs.Ytblcmcdifgclcaa.Grd
open Go.RowKit Go.Proofs.Ytblcmcdifgclcaa Go.Proofs.Ytblcmcdifgclcaa.PGridSame Go.Proofs.YtblcmcdifgclcaaW.PrintWords Go.Proofs.YtblcmcdifgclcaaW.PrintLast Go.Proofs.YtblcmcdifgclcaaW.PrintMore
set_option linter.unusedVariables false
set_option linter.unusedSimpArgs false
set_option maxRecDepth 100000
set_option maxHeartbeats 4000000
attribute [local go_sem] isSome_setCell max2_int min2_int max_two min_two
def fitP (G : GV) (rows cols : Nat) (i : Nat) : GV := ⟨(G.L.take i).map (fun l => fitC l (cols : Int)) ++ List.replicate (rows - i) (List.replicate (lenC (cols : Int)) (blankP 0 0 0)), cols, 0, 0⟩
theorem fitP_len (G : GV) {rows : Nat} (cols : Nat) {i : Nat} (h1 : i ≤ rows) (h2 : i ≤ G.L.length) : (fitP G rows cols i).L.length = rows := by
 unfold fitP
 simp only [List.length_append, List.length_map, List.length_take, List.length_replicate]
 omega
theorem fitP_ok {G : GV} (h : G.ok) {rows cols i : Nat} (hr : 1 ≤ rows ∧ rows ≤ 512) (hc : 1 ≤ cols ∧ cols ≤ 512) (h1 : i ≤ rows) (h2 : i ≤ G.L.length) : (fitP G rows cols i).ok := by
 have hlen := fitP_len G cols h1 h2
 have hlc : lenC (cols : Int) = cols := by rw [lenC_id (by omega)]; simp
 have hm : ∀ l ∈ (fitP G rows cols i).L, (∃ k ∈ G.L, fitC k (cols : Int) = l) ∨ l = List.replicate (lenC (cols : Int)) (blankP 0 0 0) := by
  intro l hl
  rcases List.mem_append.1 hl with hl | hl
  ·obtain ⟨k, hk, rfl⟩ := List.mem_map.1 hl
   exact .inl ⟨k, List.mem_of_mem_take hk, rfl⟩
  ·exact .inr (List.mem_replicate.1 hl).2
 refine ⟨by omega, by omega, hc.1, hc.2, fun l hl => ?_, fun l hl => ?_, fun l hl => ?_, ⟨Int.le_refl _, by rw [hlen]; show (0 : Int) < _; omega⟩, ⟨Int.le_refl _, by show (0 : Int) < (cols : Int); omega⟩⟩
 ·rcases hm l hl with ⟨k, hk, rfl⟩ | rfl
  ·show (fitC k (cols : Int)).length = cols; rw [fit_len, hlc]
  ·show (List.replicate _ _).length = cols; rw [List.length_replicate, hlc]
 ·rcases hm l hl with ⟨k, hk, rfl⟩ | rfl
  ·exact w32_fit (h.w32 k hk) _
  ·intro x hx; rw [(List.mem_replicate.1 hx).2]; exact w32_blankP _ _ _
 ·rcases hm l hl with ⟨k, hk, rfl⟩ | rfl
  ·exact right_fit (h.rt k hk) _
  ·exact right_blanks _ (lenC_eq (cols : Int)).2
theorem fitP_set {G : GV} {rows cols i : Nat} {l : List CS} (h1 : i < rows) (hl : G.L[i]? = some l) : gSet (fitP G rows cols i) (i : Int) (fitC l (cols : Int)) = fitP G rows cols (i + 1) := by
 have h2 := (List.getElem?_eq_some_iff.1 hl).1
 unfold gSet fitP
 simp only [Int.toNat_natCast]
 congr 1
 have hle : ((G.L.take i).map (fun l => fitC l (cols : Int))).length = i := by rw [List.length_map, List.length_take]; omega
 rw [List.set_append_right _ _ (by rw [hle]; exact Nat.le_refl _), hle, Nat.sub_self, take_more hl, List.map_append, List.append_assoc]
 congr 1
 rw [show rows - i = (rows - (i + 1)) + 1 by omega, List.replicate_succ]
 rfl
theorem fitP_all {G : GV} {rows cols : Nat} (i : Nat) (hi : i = min rows G.L.length) : gMove (fitP G rows cols i) G.row G.col = gFit G (rows : Int) (cols : Int) := by
 unfold gFit fitP
 simp only [Int.toNat_natCast]
 congr 2
 subst hi
 rcases Nat.le_total rows G.L.length with h | h
 ·rw [Nat.min_eq_left h, Nat.sub_self, Nat.sub_eq_zero_of_le h]
 ·rw [Nat.min_eq_right h, List.take_of_length_le (Nat.le_refl _), List.take_of_length_le h]
theorem fitP_zero (G : GV) (rows cols : Nat) : fitP G rows cols 0 = gNew (rows : Int) (cols : Int) := by
 unfold fitP gNew
 simp
theorem Move_fresh {w W : World} {g : Nat} {G : GV} (h : Fresh w W g G) (r c : Int) : Calls Try.prog 60 #[.pointer (some ⟨g, 0, none⟩), .int .i64 r, .int .i64 c] W fun e w' => e = .returned (.tuple #[]) ∧ Fresh w w' g (gMove G r c) :=
 (Move_any h.1 r c).mono fun e w' ⟨a, b⟩ => ⟨a, h.then_ b⟩
theorem Fit_any {O : Nat → Prop} {w : World} {g : Nat} {G : GV} (h : GS O w g G) (rows cols : Int) (hs : gSize rows cols = true) :
 Calls Try.prog 63 #[.pointer (some ⟨g, 0, none⟩), .int .i64 rows, .int .i64 cols] w fun e w' => ∃ g1, e = .returned (.tuple #[.pointer (some ⟨g1, 0, none⟩), .int .i64 0]) ∧ Fresh w w' g1 (gFit G rows cols) := by
 have HZ := aS hs
 unfold gSize at hs
 rw [Bool.and_eq_true, decide_eq_true_eq, decide_eq_true_eq] at hs
 obtain ⟨n, rfl⟩ : ∃ n : Nat, rows = (n : Int) := ⟨rows.toNat, by omega⟩
 obtain ⟨m, rfl⟩ : ∃ m : Nat, cols = (m : Int) := ⟨cols.toNat, by omega⟩
 have HNM := aS (show (1 ≤ n ∧ n ≤ 512) ∧ (1 ≤ m ∧ m ≤ 512) by omega)
 have HS := aS h
 obtain ⟨b, cap, hb, hbg, hcap, hx, hL, hrow⟩ := h.open_
 have HR := aS hrow
 have HX := aS hx
 obtain ⟨k, hk⟩ : ∃ k, min n G.L.length = k := ⟨_, rfl⟩
 have HKK := aS hk
 have hmin : (if (G.L.length : Int) < (n : Int) then (G.L.length : Int) else (n : Int)) = (k : Int) := by split <;> omega
 have hmin2 : (if G.L.length < n then (G.L.length : Int) else (n : Int)) = (k : Int) := by split <;> omega
 obtain ⟨hcut, -, -⟩ := cut_take (P := Try.prog) kL 137 58 .i64 Try.underlying137 infoLn (some ⟨b, 0, none⟩) cap G.L (k : Int) (by omega) (by omega) hcap
 rw [show (G.L.take (k : Int).toNat).length = k by rw [Int.toNat_natCast, List.length_take]; omega] at hcut
 clear hb hbg hcap hx hL hrow hk hs h
 go_enter Try.func63, Try.ntmps63
 go_wp2_with (first | (go_at_call 76; refine (New_any (n : Int) (m : Int) HZ.out w).mono ?_; rintro e w1 ⟨g1, rfl, hF⟩; have H1 := aS hF; have h2 := (blk_cell (blk_below HX.out hF.2) 2).trans (rfl : _ = some (Value.slice (some ⟨b, 0, none⟩) G.L.length cap)); clear hF))
 refine start_ (n := 14) (S := fun w' => w'.cell? ⟨g, 2, none⟩ = some (.slice (some ⟨b, 0, none⟩) G.L.length cap)) (ds := []) (tb 14 0) (by kernel_rfl) rfl rfl (h2) (fun hHeld => ?_)
 refine tP 0 (some 23) (tb 14 1) ?_
 refine tP 1 (some 24) (tb 14 3) ?_
 refine tP 2 (some 25) (tb 14 7) ?_
 refine tP 4 (some 27) (tb 14 23) ?_
 refine tP 5 (some 28) (tb 14 55) ?_
 refine tP 6 (some 29) (tb 14 119) ?_
 refine tP 7 (some 30) (tb 14 247) ?_
 refine tP 13 (some 36) (tb 14 8439) ?_
 refine take_ (i := 3) (N := some 26) (v := ?_) (a' := ?_) (tb 14 8447) rfl rfl (by kernel_rfl) (fun _ _ _ h => h) (Or.inl ⟨by rfl, ?_⟩) hHeld ?_ ?_
 rotate_left
 ·intro w' s0
  go_simp
  with_reducible rfl
 rotate_left
 ·simp only [Act.put, List.setIfInBounds_toArray, List.set_cons_zero, List.set_cons_succ, i64_w, i32_w]
  rfl
 refine take_ (i := 8) (N := some 31) (v := ?_) (a' := ?_) (tb 14 8703) rfl rfl (by kernel_rfl) (fun _ _ _ h => h) (Or.inl ⟨by rfl, ?_⟩) hHeld ?_ ?_
 rotate_left
 ·intro w' s0
  go_simp
  with_reducible rfl
 rotate_left
 ·simp only [Act.put, List.setIfInBounds_toArray, List.set_cons_zero, List.set_cons_succ, i64_w, i32_w]
  rfl
 refine tP 9 (some 32) (tb 14 9215) ?_
 refine tP 10 (some 33) (tb 14 10239) ?_
 refine tP 11 (some 34) (tb 14 12287) ?_
 refine tP 12 (some 35) (tb 14 16383) ?_
 refine done_ (by kernel_rfl) ?_
 all_goals go_wp2
 have HB0 := aS (show Fresh w w1.drew g1 (fitP G n m 0) by rw [fitP_zero]; exact H1.out.below (below_drew (Below.refl _ _)))
 obtain ⟨wl, hwl⟩ : ∃ wl, w1.drew = wl := ⟨_, rfl⟩
 rw [hwl] at HB0 ⊢
 clear hwl h2 hHeld H1 hcut hmin hmin2
 go_loopg [36] (k + 1) (fun kq v36 w' => ∃ (i : Nat), v36 = .int .i64 i ∧ Aside0 (kq = k - i + 1 ∧ i ≤ k) ∧ Aside0 (Fresh w w' g1 (fitP G n m i)))
 case atStart => exact ⟨0, by go_num, ⟨by omega, by omega⟩, HB0⟩
 case round =>
  obtain ⟨i, rfl, HK, HB⟩ := hrel
  by_cases hi : i < k
  ·have hT : decide (i < k) = true := decide_eq_true (by omega)
   have hin : i < n := by have := HKK.out; omega
   have hw1 : wrap64 ((i : Int) + 1) = ((i + 1 : Nat) : Int) := by rw [w64 (by omega) (by have := HNM.out; omega)]; omega
   obtain ⟨l, hl⟩ : ∃ l, G.L[i]? = some l := ⟨_, List.getElem?_eq_getElem (by have := HKK.out; omega)⟩
   obtain ⟨A, c, hcl, -, hc, hF⟩ := HR.out i l hl
   have hcl2 := (HB.out.2.cell (World.block_lt_of_cell? w _ hcl)).trans hcl
   have hll : l.length ≤ 512 := by have := HS.out.ok.len l (List.mem_of_getElem? hl); have := HS.out.ok.c2; omega
   have HC := aS (And.intro (Kd.C_below (Kd.F_now hF) HB.out.2) (And.intro hc (Fit_ok l (m : Int) (by omega) 1000 (by omega))))
   have HLL := aS (And.intro hl (And.intro hin (fitP_ok HS.out.ok HNM.out.1 HNM.out.2 (i := i + 1) hin (by have := HKK.out; omega))))
   obtain ⟨b1, cap1, hb1, hbg1, hcap1, hx1, hL1, hrow1⟩ := HB.out.1.open_
   have hlen := fitP_len G (rows := n) m (i := i) (by omega) (by have := HKK.out; omega)
   obtain ⟨l1, hl1⟩ : ∃ l1, (fitP G n m i).L[i]? = some l1 := ⟨_, List.getElem?_eq_getElem (by omega)⟩
   obtain ⟨A0, c0, hk1, hz1, -, -⟩ := hrow1 i l1 hl1
   have HQ := aS (And.intro hx1 (And.intro hL1 (And.intro hb1 hbg1)))
   have hg2 := (blk_cell hx1 2).trans (rfl : _ = some (Value.slice (some ⟨b1, 0, none⟩) (fitP G n m i).L.length cap1))
   rw [hlen] at hg2
   have HT := aS (And.intro (World.block_lt_of_cell? wr _ hk1) (And.intro hk1 (And.intro hz1 hg2)))
   have HLE := aS hlen
   clear hcl hc hF hl hx1 hL1 hrow1 hb1 hbg1 hcap1 hlen hk1 hz1 hl1
   go_wp2
   refine start_ (n := 10) (S := fun w' => w'.cell? ⟨g1, 2, none⟩ = some (.slice (some ⟨b1, 0, none⟩) n cap1)) (ds := [9]) (tb 10 0) (by kernel_rfl) rfl rfl (hg2) (fun hHeld => ?_)
   refine tP 0 (some 41) (tb 10 1) ?_
   refine tP 1 (some 42) (tb 10 3) ?_
   refine tP 2 (some 43) (tb 10 7) ?_
   refine tP 4 (some 45) (tb 10 23) ?_
   refine tP 5 (some 46) (tb 10 55) ?_
   refine tP 6 (some 47) (tb 10 119) ?_
   refine take_ (i := 3) (N := some 44) (v := ?_) (a' := ?_) (tb 10 127) rfl rfl (by kernel_rfl) (fun _ _ _ h => h) (Or.inl ⟨by rfl, ?_⟩) hHeld ?_ ?_
   rotate_left
   ·intro w' s0
    go_simp
    with_reducible rfl
   rotate_left
   ·simp only [Act.put, List.setIfInBounds_toArray, List.set_cons_zero, List.set_cons_succ, i64_w, i32_w]
    rfl
   refine sO 7 (some 48) (tb 10 255) (fun K hK => ?_)
   refine gO Try.func39 #[.slice A l.length c, .int .i64 m] ?_
   with_reducible refine (line_Fit.calls 1000 A c l (m : Int) _ _ (Kd.C_below HC.out.1 bE) HC.out.2.1 HC.out.2.2).mono ?_
   rintro e w6 ⟨v6, rfl, hR, hb⟩
   refine ⟨_, rfl, ?_⟩
   obtain ⟨A6, c6, rfl, hc6, -⟩ := Kd.R_reads hR
   have H6 := aS (And.intro (show Below wr.heap.size wr w6 from below_step bE hb) (And.intro hc6 (show Kd.F kCl w6 (fun k => wr.heap.size ≤ k) A6 (fitC l (m : Int)).length (fitC l (m : Int)) from Kd.F_mono (Kd.R_F (Kd.R_bound hR)) (fun k hk => hk.2.1))))
   have hk6 := (H6.out.1.cell HT.out.1).trans HT.out.2.1
   have hz6 := (H6.out.1.frozen HT.out.1).trans HT.out.2.2.1
   clear hR hb hc6
   refine hK.out _ _ ((pw_cell_below H6.out.1 HT.out.2.2.2)) (fun hHeld => ?_)
   clear hK K
   refine nm ?_
   refine tP 8 (some 49) (tb 10 511) ?_
   refine last_ (i := 9) (N := none) (tb 10 1023) rfl rfl (by kernel_rfl) (by decide) (fun K hK => ?_)
   refine skip_ (w1 := ?_) (by rfl) rfl ?_ ?_
   rotate_left
   ·go_simp
    rfl
   refine hK.out _ _ ?_
   clear hK K
   refine done_ (by kernel_rfl) ?_
   all_goals go_wp2
   all_goals go_roundg (k - (i + 1) + 1)
   all_goals first | (case measure => have := HK.out; omega) | (case rel => exact ⟨i + 1, by go_num, ⟨rfl, by omega⟩, ⟨by
    have h := HB.out.1.turned HQ.out.1 HQ.out.2.1 HQ.out.2.2 H6.out.1 H6.out.2.1 H6.out.2.2 (n := i) (by have := HLE.out; omega) (by rw [fitP_set HLL.out.2.1 HLL.out.1]; exact HLL.out.2.2)
    rw [fitP_set HLL.out.2.1 HLL.out.1] at h
    exact HB.out.then_ h⟩⟩)
  ·have hT : decide (i < k) = false := decide_eq_false hi
   obtain rfl : i = k := by have := HK.out; omega
   clear hi
   have hg0 := (blk_cell (blk_below HX.out HB.out.2) 0).trans (rfl : _ = some (Value.int .i64 G.row))
   have hg1 := (blk_cell (blk_below HX.out HB.out.2) 1).trans (rfl : _ = some (Value.int .i64 G.col))
   go_wp2
   refine start_ (n := 12) (S := fun w' => w'.cell? ⟨g, 0, none⟩ = some (.int .i64 G.row) ∧ w'.cell? ⟨g, 1, none⟩ = some (.int .i64 G.col)) (ds := [11]) (tb 12 0) (by kernel_rfl) rfl rfl ⟨hg0, hg1⟩ (fun hHeld => ?_)
   refine tP 0 (some 51) (tb 12 1) ?_
   refine tP 1 (some 52) (tb 12 3) ?_
   refine tP 2 (some 53) (tb 12 7) ?_
   refine tP 3 (some 54) (tb 12 15) ?_
   refine tP 4 (some 55) (tb 12 31) ?_
   refine tP 6 (some 57) (tb 12 95) ?_
   refine tP 7 (some 58) (tb 12 223) ?_
   refine tP 8 (some 59) (tb 12 479) ?_
   refine tP 9 (some 60) (tb 12 991) ?_
   refine tK 5 (some 56) (tb 12 1023) ?_
   refine tK 10 (some 61) (tb 12 2047) ?_
   refine last_ (i := 11) (N := some 62) (tb 12 4095) rfl rfl (by kernel_rfl) (by decide) (fun K hK => ?_)
   refine gO Try.func60 #[.pointer (some ⟨g1, 0, none⟩), .int .i64 G.row, .int .i64 G.col] ?_
   with_reducible refine (Move_fresh (HB.out.below bE) G.row G.col).mono ?_
   rintro e w6 ⟨rfl, hd⟩
   refine ⟨_, rfl, ?_⟩
   have H6 := aS hd
   clear hd
   refine hK.out _ _ ?_
   clear hK K
   refine nm ?_
   refine done_ (by kernel_rfl) ?_
   all_goals go_wp2
   all_goals go_ret2
   all_goals exact ⟨g1, rfl, by have h := H6.out; rw [fitP_all i HKK.out.symm] at h; exact h⟩
theorem Fit_no {O : Nat → Prop} {w : World} {g : Nat} {G : GV} (h : GS O w g G) (rows cols : Int) (hs : gSize rows cols = false) :
 Calls Try.prog 63 #[.pointer (some ⟨g, 0, none⟩), .int .i64 rows, .int .i64 cols] w fun e w' => e = .returned (.tuple #[.pointer none, .int .i64 11]) ∧ Below w.heap.size w w' := by
 have HZ := aS hs
 clear hs h
 go_enter Try.func63, Try.ntmps63
 go_wp2_with (first | (go_at_call 76; refine (New_no rows cols HZ.out w).mono ?_; rintro e w1 ⟨rfl, hF⟩; have H1 := aS hF; clear hF))
 all_goals go_ret2
 all_goals exact ⟨rfl, H1.out⟩
end Go.Proofs.Ytblcmcdifgclcaa.Grd
namespace Go.Proofs.Ytblcmcdifgclcaa.Grd
open Go.RowKit Go.Proofs.Ytblcmcdifgclcaa Go.Proofs.Ytblcmcdifgclcaa.PGridSame Go.Proofs.YtblcmcdifgclcaaW.PrintWords Go.Proofs.YtblcmcdifgclcaaW.PrintLast Go.Proofs.YtblcmcdifgclcaaW.PrintMore
set_option linter.unusedVariables false
set_option linter.unusedSimpArgs false
set_option maxRecDepth 100000
set_option maxHeartbeats 4000000
attribute [local go_sem] isSome_setCell max2_int min2_int max_two min_two
def RowsC (W : World) (ok : Nat → Prop) (cs : List Value) (L : List (List CS)) : Prop :=
 cs.length = L.length ∧ ∀ (j : Nat) (l : List CS), L[j]? = some l → ∃ A c, cs[j]? = some (.slice A l.length c) ∧ l.length ≤ c ∧ Kd.F kCl W ok A l.length l
section
variable {W W1 : World} {ok ok1 ok2 : Nat → Prop} {v : Value} {L X Y : List (List CS)} {b cap n : Nat}
theorem GL.rows (h : GL W ok (.slice (some ⟨b, 0, none⟩) n cap) L) : ∃ cs, RowsC W (fun k => ok k ∧ k ≠ b) cs L ∧ ∀ j u, cs[j]? = some u → W.cell? ⟨b, j, none⟩ = some u := by
 obtain ⟨b', cap', he, hcap, hb, ⟨cs, hx⟩, hr⟩ := h
 injection he with he1 he2 he3
 injection he1 with he1
 injection he1 with he1
 subst he1
 have hsz : L.length ≤ cs.size := by
  rcases Nat.eq_zero_or_pos L.length with h0 | h0
  ·omega
  ·obtain ⟨A0, c0, h1, -⟩ := hr (L.length - 1) _ (List.getElem?_eq_getElem (by omega))
   rw [blk_cell hx] at h1
   have := (Array.getElem?_eq_some_iff.1 h1).1
   omega
 have hg : ∀ j, j < L.length → (cs.toList.take L.length)[j]? = W.cell? ⟨b, j, none⟩ := fun j hj => by
  rw [blk_cell hx, List.getElem?_take, if_pos hj, Array.getElem?_toList]
 have hl : (cs.toList.take L.length).length = L.length := by rw [List.length_take, Array.length_toList]; exact Nat.min_eq_left hsz
 refine ⟨cs.toList.take L.length, ⟨hl, fun j l hj => ?_⟩, fun j u hj => ?_⟩
 ·obtain ⟨A, c, h1, h2, h3⟩ := hr j l hj
  exact ⟨A, c, by rw [hg j (List.getElem?_eq_some_iff.1 hj).1]; exact h1, h2, h3⟩
 ·rw [← hg j (by have := (List.getElem?_eq_some_iff.1 hj).1; omega)]
  exact hj
theorem RowsC.drop (h : ∃ cs, RowsC W ok cs L ∧ ∀ j u, cs[j]? = some u → W.cell? ⟨b, j, none⟩ = some u) (k : Nat) : ∃ cs, RowsC W ok cs (L.drop k) ∧ ∀ j u, cs[j]? = some u → W.cell? ⟨b, k + j, none⟩ = some u := by
 obtain ⟨cs, ⟨hl, hr⟩, hc⟩ := h
 refine ⟨cs.drop k, ⟨by rw [List.length_drop, List.length_drop, hl], fun j l hj => ?_⟩, fun j u hj => ?_⟩
 ·rw [List.getElem?_drop] at hj ⊢
  exact hr _ _ hj
 ·rw [List.getElem?_drop] at hj
  exact hc _ _ hj
theorem RowsC.join {c1 c2 : List Value} (h1 : RowsC W ok1 c1 X) (h2 : RowsC W ok2 c2 Y) : RowsC W (fun k => ok1 k ∨ ok2 k) (c1 ++ c2) (X ++ Y) := by
 refine ⟨by rw [List.length_append, List.length_append, h1.1, h2.1], fun j l hj => ?_⟩
 rcases Nat.lt_or_ge j X.length with h | h
 ·rw [List.getElem?_append_left h] at hj
  obtain ⟨A, c, a1, a2, a3⟩ := h1.2 j l hj
  exact ⟨A, c, by rw [List.getElem?_append_left (by rw [h1.1]; exact h)]; exact a1, a2, Kd.F_mono a3 (fun _ hk => .inl hk)⟩
 ·rw [List.getElem?_append_right h] at hj
  obtain ⟨A, c, a1, a2, a3⟩ := h2.2 _ l hj
  exact ⟨A, c, by rw [List.getElem?_append_right (by rw [h1.1]; exact h), h1.1]; exact a1, a2, Kd.F_mono a3 (fun _ hk => .inr hk)⟩
theorem GL.ofOwn {cs : List Value} {base m : Nat} (hp : 0 < m) (hm : L.length = m) (h : W.ownsRow base tLn 1 v m cs) (hr : RowsC W ok cs L) (hk : ∀ k, ok k → k < base) (ho : ∀ k, ok k → ok1 k) (hn : ∀ k, base ≤ k → ok1 k) : GL W ok1 v L := by
 obtain ⟨hl, ⟨-, h0⟩ | ⟨g, cap, cur, rfl, hb, hx, hc, -, hs, ht⟩⟩ := h
 ·omega
 ·subst hm
  refine ⟨g, cap, rfl, hc, hn g hb, ⟨cur, hx⟩, fun j l hj => ?_⟩
  obtain ⟨A, c, h1, h2, h3⟩ := hr.2 j l hj
  refine ⟨A, c, ?_, h2, Kd.F_mono h3 (fun k hk' => ⟨ho k hk', by have := hk k hk'; omega⟩)⟩
  have hjl := (List.getElem?_eq_some_iff.1 hj).1
  rw [blk_cell hx, ← Array.getElem?_toList]
  rw [← ht, List.getElem?_take, if_pos (by omega)] at h1
  exact h1
theorem roll_up {base c2 : Nat} (hs : L.length ≤ 512) (hL : GL W ok (.slice (some ⟨b, 0, none⟩) L.length cap) L) (k : Nat) (hk : k ≤ L.length) (hp : 0 < L.length) {l : List CS} {A2 : Option Addr} (hN : Kd.N kL tLn W base ok2 (.slice A2 k c2) (List.replicate k l)) :
 ∃ v1 w1, (∀ ty, (Builtin.append_ #[137, 137] ty #[.slice (some (if L.length = k then ⟨b, 0, none⟩ else ⟨b, k, none⟩)) (L.length - k) (L.length - k), .slice A2 k c2]).run Try.prog W = .ok v1 w1) ∧
  W.grownBy w1 none ∧ GL w1 (fun i => (ok i ∨ ok2 i) ∨ W.heap.size ≤ i) v1 (L.drop k ++ List.replicate k l) := by
 obtain ⟨i0, hi, hzz⟩ := Option.map_eq_some_iff.1 infoLn
 simp only [Prod.mk.injEq] at hzz
 obtain ⟨hz0, hz1, hz2⟩ := hzz
 rcases Nat.eq_zero_or_pos k with h0 | h0
 ·subst h0
  refine ⟨_, W, fun ty => by rw [if_neg (by omega), Nat.sub_zero]; exact run_append_zero (P := Try.prog) W 137 ty 58 i0 Try.underlying137 hi _ A2 L.length c2, grown_refl _ _, ?_⟩
  obtain ⟨b', cap', he, hcap, hb, hx, hr⟩ := hL.mono (ok' := fun i => (ok i ∨ ok2 i) ∨ W.heap.size ≤ i) (fun i hi => .inl (.inl hi))
  injection he with he1 he2 he3
  injection he1 with he1
  injection he1 with he1
  subst he1
  refine ⟨b, L.length, by simp, by simp, hb, hx, fun j l hj => ?_⟩
  simp only [List.drop_zero, List.replicate_zero, List.append_nil] at hj
  exact hr j l hj
 ·have hG := GL.ofN (by rw [List.length_replicate]; exact h0) (Kd.N_bound hN)
  obtain ⟨g2, c2', he, -, hb2, -, -⟩ := id hG
  injection he with he1 he2 he3
  subst he1
  subst he3
  obtain ⟨c1, hc1, hc1c⟩ := RowsC.drop hL.rows k
  obtain ⟨n1, hn1, hn1c⟩ := hG.rows
  have hlo : c1.length = (L.length - k) * 1 := by rw [hc1.1, List.length_drop]; omega
  have hln : n1.length = k * 1 := by rw [hn1.1, List.length_replicate]; omega
  have hadd : ∀ (x : Nat) (j : Nat), (⟨x, 0, none⟩ : Addr).add j = ⟨x, j, none⟩ := fun x j => by cases j <;> simp [Addr.add]
  have hadk : ∀ (j : Nat), (⟨b, k, none⟩ : Addr).add j = ⟨b, k + j, none⟩ := fun j => by cases j <;> simp [Addr.add]
  have hrun : ∀ ty, ∃ v' w', (Builtin.append_ #[137, 137] ty #[.slice (some (if L.length = k then ⟨b, 0, none⟩ else ⟨b, k, none⟩)) (L.length - k) (L.length - k), .slice (some ⟨g2, 0, none⟩) k c2]).run Try.prog W = .ok v' w' ∧ w'.ownsRow W.heap.size tLn 1 v' (L.length - k + k) (c1 ++ n1) ∧ W.grownBy w' none := fun ty =>
   run_append_arg_grows (P := Try.prog) W 137 ty 58 i0 (.slice none 0 0) 1 24 Try.underlying137 hi hz0 hz1 hz2 rfl (by decide) _ (L.length - k) (L.length - k) c1 hlo (fun j u hj => by
    have hjl := (List.getElem?_eq_some_iff.1 hj).1
    rw [if_neg (by omega), hadk]
    exact hc1c j u hj) ⟨g2, 0, none⟩ k c2 n1 hln (fun j u hj => by rw [hadd]; exact hn1c j u hj) (by omega) (by unfold maxLen; omega) (by omega)
  obtain ⟨v', w', hr, ho, hg⟩ := hrun 0
  refine ⟨v', w', fun ty => ?_, hg, ?_⟩
  ·obtain ⟨v2, w2, hr2, -⟩ := hrun ty
   rw [← hr]
   rfl
  ·have hj := hc1.join hn1
   have hj2 : RowsC w' (fun i => ((ok i ∧ i ≠ b) ∨ ((ok2 i ∧ i < W.heap.size) ∧ i ≠ g2)) ∧ i < W.heap.size) (c1 ++ n1) (L.drop k ++ List.replicate k l) :=
    ⟨hj.1, fun j l hj' => by
     obtain ⟨A, c, a1, a2, a3⟩ := hj.2 j l hj'
     exact ⟨A, c, a1, a2, Kd.F_step (Kd.F_bound a3) (fun i hi hlt => hg.block i hlt (by simp))⟩⟩
   exact GL.ofOwn (by omega) (by rw [List.length_append, List.length_drop, List.length_replicate]) ho hj2 (fun i hi => hi.2) (fun i hi => .inl (hi.1.elim (fun h => .inl h.1) (fun h => .inr h.1.1))) (fun i hi => .inr hi)
theorem roll_step {ops : Array Oper} {o : Oper} {a : Act} {Q : Exit → Act → World → Prop} {Kc : Act → World → Prop} {base c2 N : Nat} (hw : Region.wanted o (yielded ops a.tmps) = true) (s x : Operand)
 (ho : o.op = .call { callee := .builtin .append, args := #[s, x], argTypes := #[137, 137] }) (hn : L.length = N) (hs : N ≤ 512) (hL : GL W ok (.slice (some ⟨b, 0, none⟩) L.length cap) L) (k : Nat) (hk : k ≤ N) (hp : 0 < N) {l : List CS} {A2 : Option Addr} (A9 : Addr)
 (hA : (if N = k then ⟨b, 0, none⟩ else ⟨b, k, none⟩) = A9) (he : a.eval s = .slice (some A9) (N - k) (N - k)) (hx : a.eval x = .slice A2 k c2) (hN : Kd.N kL tLn W base ok2 (.slice A2 k c2) (List.replicate k l))
 (h : ∀ v1 w1, W.grownBy w1 none → GL w1 (fun i => (ok i ∨ ok2 i) ∨ W.heap.size ≤ i) v1 (L.drop k ++ List.replicate k l) → Kc (a.put o.dst v1) w1) :
 if Region.wanted o (yielded ops a.tmps) = true then Oper.wp Try.prog o a W Kc Q else Kc (a.put o.dst undef) W := by
 subst hn
 subst hA
 obtain ⟨v1, w1, hr, hg, hG⟩ := roll_up hs hL k hk hp hN
 rw [if_pos hw]
 unfold Oper.wp execOp
 simp only [ho, resolve, invoke, builtin, Sem.run_bind, Sem.run_pure, Result.andThen_ok, List.map_toArray, List.map_cons, List.map_nil, he, hx, hr]
 exact h _ _ hg hG
theorem GL.first (h : GL W ok (.slice (some ⟨b, 0, none⟩) n cap) L) (hs : L.length ≤ 512) (m : Nat) (hm : m ≤ L.length) : Kd.F kL W ok (some ⟨b, 0, none⟩) m (L.take m) := by
 intro W' hW
 have h' := h.step hW
 obtain ⟨b', cap', he, hcap, hb, -, hr⟩ := h'
 injection he with he1 he2 he3
 injection he1 with he1
 injection he1 with he1
 subst he1
 refine ⟨by rw [List.length_take]; omega, by omega, fun _ => ⟨_, rfl, fun j l hj => ?_⟩⟩
 rw [List.getElem?_take] at hj
 split at hj
 ·obtain ⟨A, c, h1, h2, h3⟩ := hr j l hj
  refine ⟨[.slice A l.length c], rfl, ⟨A, c, rfl, h2, Kd.F_now h3⟩, fun i u hi => ?_⟩
  have hi0 : i = 0 := by have := (List.getElem?_eq_some_iff.1 hi).1; simp at this; omega
  subst hi0
  have hu : Value.slice A l.length c = u := by simpa using hi
  subst hu
  have e : (⟨b, 0, none⟩ : Addr).add (j * kL.sz + 0) = ⟨b, j, none⟩ := by
   show (⟨b, 0, none⟩ : Addr).add (j * 1 + 0) = _
   rw [Nat.mul_one, Nat.add_zero]
   cases j <;> simp [Addr.add]
  rw [e]
  exact h1
 ·cases hj
end
end Go.Proofs.Ytblcmcdifgclcaa.Grd
