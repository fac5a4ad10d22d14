/- GridPlays: what its proof leads to. No condition. -/
import Derived.Test.YtblcmcdifgclcaaGreatG6qGridPlays
import Derived.Test.YtblcmcdifgclcaaGreatG23qGridPlays
import Derived.Test.YtblcmcdifgclcaaGreatG24qGridPlays
import Derived.Test.YtblcmcdifgclcaaGreatG27qGridPlays
namespace Go.Proofs.YtblcmcdifgclcaaGreat.Grd
open Go.RowKit Go.Proofs.YtblcmcdifgclcaaGreat Go.Proofs.YtblcmcdifgclcaaGreat.PGridPlays Go.Proofs.YtblcmcdifgclcaaGreatW.PrintWords Go.Proofs.YtblcmcdifgclcaaGreatW.PrintLast Go.Proofs.YtblcmcdifgclcaaGreatW.PrintMore
set_option linter.unusedVariables false
set_option linter.unusedSimpArgs false
set_option maxRecDepth 100000
set_option maxHeartbeats 4000000
attribute [local go_sem] isSome_setCell max2_int min2_int max_two min_two
theorem Clone_ok (l : List CS) (h : l.length ≤ 1000) : cell_Cell_52.f l = some l := by unfold cell_Cell_52.f; rw [if_pos (by omega)]
theorem take_more {α : Type} {L : List α} {i : Nat} {l : α} (h : L[i]? = some l) : L.take (i + 1) = L.take i ++ [l] := by rw [List.take_add_one, h]; rfl
theorem Copy_any {O : Nat → Prop} {w : World} {g : Nat} {G : GV} (h : GS O w g G) :
 Calls Tryz.prog 43 #[.pointer (some ⟨g, 0, none⟩)] w fun e w' => ∃ g1, e = .returned (.pointer (some ⟨g1, 0, none⟩)) ∧ Fresh w w' g1 G := by
 obtain ⟨b, cap, hb, hbg, hcap, hx, hL, hrow⟩ := h.open_
 have h0 := (blk_cell hx 0).trans (rfl : _ = some (Value.int .i64 G.row))
 have h1 := (blk_cell hx 1).trans (rfl : _ = some (Value.int .i64 G.col))
 have h2 := (blk_cell hx 2).trans (rfl : _ = some (Value.slice (some ⟨b, 0, none⟩) G.L.length cap))
 have h3 := (blk_cell hx 3).trans (rfl : _ = some (Value.int .i64 G.cols))
 have HR := aS hrow
 clear hb hbg hcap hx hL hrow
 have HS := aS h
 have hgl := h.lt
 clear h
 go_enter Tryz.func43, Tryz.ntmps43
 go_wp2
 refine start_ (n := 11) (S := fun w' => w'.cell? ⟨g, 0, none⟩ = some (.int .i64 G.row) ∧ w'.cell? ⟨g, 1, none⟩ = some (.int .i64 G.col) ∧ w'.cell? ⟨g, 3, none⟩ = some (.int .i64 G.cols)) (ds := [9]) (tb 11 0) (by kernel_rfl) rfl rfl ⟨h0, h1, h3⟩ (fun hHeld => ?_)
 refine tP 0 (some 8) (tb 11 1) ?_
 refine tP 1 (some 9) (tb 11 3) ?_
 refine tP 2 (some 10) (tb 11 7) ?_
 refine tP 4 (some 12) (tb 11 23) ?_
 refine tP 5 (some 13) (tb 11 55) ?_
 refine tP 6 (some 14) (tb 11 119) ?_
 refine tK 3 (some 11) (tb 11 127) ?_
 refine tK 7 (some 15) (tb 11 255) ?_
 refine tP 8 (some 16) (tb 11 511) ?_
 refine last_ (i := 9) (N := some 17) (tb 11 1023) rfl rfl (by kernel_rfl) (by decide) (fun K hK => ?_)
 refine value_ (w1 := ?_) (v := ?_) (by rfl) rfl ?_ ?_
 rotate_left 2
 ·go_simp
  constructor
  ·rfl
  ·rfl
 refine hK.out _ _ ?_
 clear hK K
 refine nm ?_
 refine tP 10 (some 3) (tb 11 2047) ?_
 refine done_ (by kernel_rfl) ?_
 all_goals go_wp2
 obtain ⟨g1, hg1⟩ : ∃ g1, w.heap.size = g1 := ⟨_, rfl⟩
 have HB0 := aS (show GB w ((w.alloc (.cells #[.int .i64 G.row, .int .i64 G.col, .slice none 0 0, .int .i64 G.cols] 66 (0, 0))).drew) g1 G.row G.col G.cols (.slice none 0 0) [] by rw [← hg1]; exact (GB.new (Below.refl _ _) G.row G.col G.cols).below (below_drew (Below.refl _ _)))
 obtain ⟨wl, hwl⟩ : ∃ wl, (w.alloc (.cells #[.int .i64 G.row, .int .i64 G.col, .slice none 0 0, .int .i64 G.cols] 66 (0, 0))).drew = wl := ⟨_, rfl⟩
 have HG1 := aS hg1
 rw [hwl] at HB0 ⊢
 try rw [hg1]
 clear hg1 hwl hgl h0 h1 h2 h3 hHeld
 have HR2 := aS HS.out.ok.r2
 obtain ⟨n, hn⟩ : ∃ n, G.L.length = n := ⟨_, rfl⟩
 have HN := aS hn
 rw [hn]
 clear hn
 go_loopg [23] (n + 1) (fun kq v23 w' => ∃ (i : Nat) (v : Value), v23 = .int .i64 i ∧ Aside0 (kq = n - i + 1 ∧ i ≤ n) ∧ Aside0 (GB w w' g1 G.row G.col G.cols v (G.L.take i)))
 case atStart => exact ⟨0, _, by go_num, ⟨by omega, by omega⟩, HB0⟩
 case round =>
  obtain ⟨i, v, rfl, HK, HB⟩ := hrel
  by_cases hi : i < n
  ·have hT : decide (i < n) = true := decide_eq_true (by omega)
   have hw1 : wrap64 ((i : Int) + 1) = ((i + 1 : Nat) : Int) := by rw [w64 (by omega) (by have := HR2.out; have := HN.out; omega)]; omega
   have HI := aS hi
   have hc2 := HB.out.cell.1
   obtain ⟨l, hl⟩ : ∃ l, G.L[i]? = some l := ⟨_, List.getElem?_eq_getElem (by have := HN.out; omega)⟩
   obtain ⟨A, c, hcl, -, hc, hF⟩ := HR.out i l hl
   have hcl2 := (HB.out.hb.cell (World.block_lt_of_cell? w _ hcl)).trans hcl
   have HC := aS (And.intro (Kd.C_below (Kd.F_now hF) HB.out.hb) (And.intro hc (Clone_ok l (by have := HS.out.ok.len l (List.mem_of_getElem? hl); have := HS.out.ok.c2; omega))))
   have HLL := aS hl
   clear hcl hc hF hl
   go_wp2
   refine start_ (n := 12) (S := fun w' => w'.cell? ⟨g1, 2, none⟩ = some v) (ds := [8, 11]) (tb 12 0) (by kernel_rfl) rfl rfl (hc2) (fun hHeld => ?_)
   refine tP 0 (some 27) (tb 12 1) ?_
   refine tP 1 (some 28) (tb 12 3) ?_
   refine tP 2 (some 29) (tb 12 7) ?_
   refine tP 3 (some 30) (tb 12 15) ?_
   refine tP 5 (some 32) (tb 12 47) ?_
   refine take_ (i := 4) (N := some 31) (v := ?_) (a' := ?_) (tb 12 63) rfl rfl (by kernel_rfl) (fun _ _ _ h => h) (Or.inl ⟨by rfl, ?_⟩) hHeld ?_ ?_
   rotate_left
   ·intro w' s0
    go_simp
    with_reducible rfl
   rotate_left
   ·simp only [Act.put, List.setIfInBounds_toArray, List.set_cons_zero, List.set_cons_succ, i64_w, i32_w]
    rfl
   refine sO 6 (some 33) (tb 12 127) (fun K hK => ?_)
   refine gO Tryz.func52 #[.slice A l.length c] ?_
   with_reducible refine (cell_Cell_52.calls A c l l _ (Kd.C_below HC.out.1 bE) HC.out.2.1 HC.out.2.2).mono ?_
   rintro e w6 ⟨v6, rfl, hR, hb⟩
   refine ⟨_, rfl, ?_⟩
   obtain ⟨A6, c6, rfl, hc6, -⟩ := Kd.R_reads hR
   have H6 := aS (And.intro (HB.out.below (below_step bE hb)) (show Kd.FK kL w6 (fun k => wr.heap.size ≤ k) l [.slice A6 l.length c6] from Kd.FK_slice_mk hc6 (Kd.F_mono (Kd.R_F (Kd.R_bound hR)) (fun k hk => hk.2.1))))
   clear hR hb hc6
   refine hK.out _ _ (H6.out.1.cell.1) (fun hHeld => ?_)
   clear hK K
   refine nm ?_
   refine sO 7 (some 34) (tb 12 255) (fun K hK => ?_)
   refine value_ (w1 := ?_) (v := ?_) (by rfl) rfl ?_ ?_
   rotate_left 2
   ·go_simp
    constructor
    ·rfl
    ·rfl
   refine hK.out _ _ ((H6.out.1.below bE).cell.1) (fun hHeld => ?_)
   clear hK K
   refine nm ?_
   refine last_ (i := 8) (N := some 35) (tb 12 511) rfl rfl (by kernel_rfl) (by decide) (fun K hK => ?_)
   refine Kd.N_append_step kL (w0 := w6) (g1 + 1) (by rfl) (.tmp 31) (.tmp 34) 64 41 (.slice none 0 0) 24 (by rfl) Tryz.underlying64 infoLn rfl (by decide) (by omega) v (G.L.take i) l [.slice A6 l.length c6] (fun k => g1 < k) (fun k => wr.heap.size ≤ k) (by rfl) (by rfl) (Kd.FK_below H6.out.2 bE) ?hokp ?hfresh (Kd.N_below H6.out.1.rows bE) bE ?hsz ?hlen ?_
   case hokp => intro k hk; exact ⟨Nat.lt_of_lt_of_le HB.out.lt hk, fun e => by have := Kd.N_lt HB.out.rows k e.symm; omega⟩
   case hfresh => intro k hk; exact Nat.lt_of_lt_of_le H6.out.1.lt hk
   case hsz => exact H6.out.1.lt
   case hlen => have := HR2.out; have := HN.out; have := HI.out; rw [List.length_take]; omega
   intro v8 w8 ho hb hg8 hat
   obtain ⟨A8, c8, e8⟩ := Kd.N_slice ho
   generalize (G.L.take i ++ [l]).length = n8 at e8
   subst e8
   have H8 := aS (H6.out.1.more ho hg8)
   have hc8 := H8.out.1
   have hz8 := H8.out.2.1
   clear ho hb hg8 hat
   refine hK.out _ _ ?_
   clear hK K
   refine nm ?_
   refine tP 9 (some 36) (tb 12 1023) ?_
   refine tP 10 (some 37) (tb 12 2047) ?_
   refine last_ (i := 11) (N := none) (tb 12 4095) rfl rfl (by kernel_rfl) (by decide) (fun K hK => ?_)
   refine skip_ (w1 := ?_) (by rfl) rfl ?_ ?_
   rotate_left
   ·go_simp
    rfl
   refine hK.out _ _ ?_
   clear hK K
   refine done_ (by kernel_rfl) ?_
   all_goals go_wp2
   all_goals go_roundg (n - (i + 1) + 1)
   all_goals first | (case measure => have := HK.out; have := HI.out; omega) | (case rel => exact ⟨i + 1, _, by go_num, ⟨rfl, by have := HI.out; omega⟩, ⟨by have h := H8.out.2.2; rwa [← take_more HLL.out] at h⟩⟩)
  ·have hT : decide (i < n) = false := decide_eq_false hi
   obtain rfl : i = n := by have := HK.out; omega
   clear hi
   go_wp2
   all_goals go_ret
   refine ⟨g1, rfl, ?_⟩
   have h := HB.out
   rw [← HN.out, List.take_length] at h
   exact h.done HS.out.ok
end Go.Proofs.YtblcmcdifgclcaaGreat.Grd
