/- GridPlays: what its proof leads to. No condition. -/
import Derived.Test.YtblcmcdifgclcaaGreatG6qGridPlays
import Derived.Test.YtblcmcdifgclcaaGreatG23qGridPlays
import Derived.Test.YtblcmcdifgclcaaGreatG24qGridPlays
namespace Go.Proofs.YtblcmcdifgclcaaGreat.Grd
open Go.RowKit Go.Proofs.YtblcmcdifgclcaaGreat Go.Proofs.YtblcmcdifgclcaaGreat.PGridPlays Go.Proofs.YtblcmcdifgclcaaGreatW.PrintWords Go.Proofs.YtblcmcdifgclcaaGreatW.PrintLast Go.Proofs.YtblcmcdifgclcaaGreatW.PrintMore
set_option linter.unusedVariables false
set_option linter.unusedSimpArgs false
set_option maxRecDepth 100000
set_option maxHeartbeats 4000000
attribute [local go_sem] isSome_setCell max2_int min2_int max_two min_two
theorem infoLn : (Tryz.prog.info? 41).map (fun i => (i.zero, i.size, i.bytes)) = some (some (.slice none 0 0), 1, 24) := by kernel_rfl
section
variable {O : Nat → Prop} {W : World} {g : Nat} {G : GV}
theorem GS.moved (h : GS O W g G) (r c : Int) : Did O W ((W.setCell ⟨g, 0, none⟩ (.int .i64 (gBring r G.L.length))).setCell ⟨g, 1, none⟩ (.int .i64 (gBring c G.cols))) g (gMove G r c) := by
 obtain ⟨v, hx, hL⟩ := h.ex
 have h1 := blk_set (blk_set hx 0 (.int .i64 (gBring r G.L.length))) 1 (.int .i64 (gBring c G.cols))
 have hs : ∀ (W : World) (p : Addr) (u : Value), (W.setCell p u).heap.size = W.heap.size := fun W p u => by simp [World.setCell]
 refine ⟨O, ⟨h.og, fun k hk => by rw [hs, hs]; exact h.ob k hk, gMove_ok h.ok r c, v, by simpa [gMove] using h1, ?_⟩, fun k hk => .inl hk, ((Wr.refl O W).set (.inl h.og) _).set (.inl h.og) _⟩
 refine hL.step (fun k hk _ => ?_)
 rw [Below.heap_setCell _ _ _ k hk.2, Below.heap_setCell _ _ _ k hk.2]
theorem Move_any (h : GS O W g G) (r c : Int) : Calls Tryz.prog 39 #[.pointer (some ⟨g, 0, none⟩), .int .i64 r, .int .i64 c] W fun e w' => e = .returned (.tuple #[]) ∧ Did O W w' g (gMove G r c) := by
 obtain ⟨b, cap, h0, h1, h2, h3, -, -, -⟩ := h.cells
 obtain ⟨v, hx, -⟩ := h.ex
 have f0 := blk_frozen hx 0
 have f1 := blk_frozen hx 1
 have HS := aS h
 have hw1 : wrap64 ((G.L.length : Int) - 1) = (G.L.length : Int) - 1 := w64 (by omega) (by have := h.ok.r2; omega)
 have hw2 : wrap64 ((G.cols : Int) - 1) = (G.cols : Int) - 1 := w64 (by omega) (by have := h.ok.c2; omega)
 have hm : ∀ (x : Int) (n : Nat), (if (n : Int) - 1 < (if x < 0 then 0 else x) then (n : Int) - 1 else (if x < 0 then 0 else x)) = gBring x n := fun x n => by unfold gBring mn mx; rfl
 clear h hx
 go_enter Tryz.func39, Tryz.ntmps39
 go_wp2
 refine start_ (n := 22) (S := fun w' => w'.cell? ⟨g, 2, none⟩ = some (.slice (some ⟨b, 0, none⟩) G.L.length cap) ∧ w'.cell? ⟨g, 3, none⟩ = some (.int .i64 G.cols)) (ds := [21]) (tb 22 0) (by kernel_rfl) rfl rfl ⟨h2, h3⟩ (fun hHeld => ?_)
 refine tP 0 (some 8) (tb 22 1) ?_
 refine tP 1 (some 9) (tb 22 3) ?_
 refine tP 2 (some 10) (tb 22 7) ?_
 refine tP 3 (some 11) (tb 22 15) ?_
 refine tP 4 (some 12) (tb 22 31) ?_
 refine tP 5 (some 13) (tb 22 63) ?_
 refine tP 10 (some 18) (tb 22 1087) ?_
 refine tP 11 (some 19) (tb 22 3135) ?_
 refine tP 12 (some 20) (tb 22 7231) ?_
 refine tP 13 (some 21) (tb 22 15423) ?_
 refine tP 14 (some 22) (tb 22 31807) ?_
 refine tK 6 (some 14) (tb 22 31871) ?_
 refine tP 7 (some 15) (tb 22 31999) ?_
 refine tP 8 (some 16) (tb 22 32255) ?_
 refine tP 9 (some 17) (tb 22 32767) ?_
 refine tK 15 (some 23) (tb 22 65535) ?_
 refine tP 16 (some 24) (tb 22 131071) ?_
 refine tP 17 (some 25) (tb 22 262143) ?_
 refine tP 18 (some 26) (tb 22 524287) ?_
 refine tP 19 (some 27) (tb 22 1048575) ?_
 refine tP 20 (some 28) (tb 22 2097151) ?_
 refine last_ (i := 21) (N := none) (tb 22 4194303) rfl rfl (by kernel_rfl) (by decide) (fun K hK => ?_)
 refine skip_ (w1 := ?_) (by rfl) rfl ?_ ?_
 rotate_left
 ·go_simp
  rfl
 refine hK.out _ _ ?_
 clear hK K
 refine done_ (by kernel_rfl) ?_
 all_goals go_wp2
 all_goals go_end0
 all_goals exact ⟨rfl, (HS.out.moved r c).below bE⟩
end
structure GB (w W : World) (g : Nat) (row col : Int) (cols : Nat) (v : Value) (L : List (List CS)) : Prop where
 hb : Below w.heap.size w W
 ge : w.heap.size ≤ g
 bx : W.heap[g]? = some (.cells #[.int .i64 row, .int .i64 col, v, .int .i64 cols] 66 (0, 0))
 rows : Kd.N kL tLn W (g + 1) (fun k => g < k) v L
def Fresh (w W : World) (g : Nat) (G : GV) : Prop := GS (fun k => w.heap.size ≤ k ∧ k < W.heap.size) W g G ∧ Below w.heap.size w W
section
variable {w W W1 : World} {g : Nat} {row col : Int} {cols : Nat} {v v1 : Value} {L : List (List CS)}
theorem GB.below (h : GB w W g row col cols v L) (hb : Below W.heap.size W W1) : GB w W1 g row col cols v L :=
 ⟨below_then h.hb h.hb.size hb, h.ge, blk_below h.bx hb, Kd.N_below h.rows hb⟩
theorem GB.lt (h : GB w W g row col cols v L) : g < W.heap.size := blk_lt h.bx
theorem GB.cell (h : GB w W g row col cols v L) : W.cell? ⟨g, 2, none⟩ = some v ∧ W.frozen? ⟨g, 2, none⟩ = false := ⟨(blk_cell h.bx 2).trans rfl, blk_frozen h.bx 2⟩
theorem GB.noown (h : GB w W g row col cols v L) : some g ≠ v.ownBlock := fun e => by have := h.rows.1 g e.symm; omega
theorem GB.new (hb : Below w.heap.size w W) (row col : Int) (cols : Nat) : GB w (W.alloc (.cells #[.int .i64 row, .int .i64 col, .slice none 0 0, .int .i64 cols] 66 (0, 0))) W.heap.size row col cols (.slice none 0 0) [] :=
 ⟨below_alloc hb _, hb.size, blk_new _ _, Kd.N_nil _ _ _ _ _⟩
theorem GB.more (h : GB w W g row col cols v L) {L1 : List (List CS)} (hN : Kd.N kL tLn W1 (g + 1) (fun k => g < k) v1 L1) (hg : W.grownBy W1 v.ownBlock) :
 W1.cell? ⟨g, 2, none⟩ = some v ∧ W1.frozen? ⟨g, 2, none⟩ = false ∧ GB w (W1.setCell ⟨g, 2, none⟩ v1) g row col cols v1 L1 := by
 have hx := blk_grown h.bx hg h.noown
 refine ⟨(blk_cell hx 2).trans rfl, blk_frozen hx 2, (h.hb.grown hg h.hb.size (fun k hk => by have := h.rows.1 k hk; have := h.ge; omega)).setCell h.ge _, h.ge, by simpa using blk_set hx 2 v1, Kd.N_far hN (fun k hk => Nat.ne_of_gt hk) _⟩
theorem GB.done (h : GB w W g row col cols v L) (hok : (⟨L, cols, row, col⟩ : GV).ok) : Fresh w W g ⟨L, cols, row, col⟩ := by
 refine ⟨⟨⟨h.ge, h.lt⟩, fun k hk => hk.2, hok, v, h.bx, ?_⟩, h.hb⟩
 refine (GL.ofN (by have := hok.r1; exact this) (Kd.N_bound h.rows)).mono (fun k hk => ⟨⟨Nat.le_trans h.ge (Nat.le_of_lt hk.1), hk.2⟩, Nat.ne_of_gt hk.1⟩)
theorem Fresh.below {G : GV} (h : Fresh w W g G) (hb : Below W.heap.size W W1) : Fresh w W1 g G := by
 have h1 := h.1.below hb
 refine ⟨⟨⟨h1.og.1, Nat.lt_of_lt_of_le h1.og.2 hb.size⟩, fun k hk => hk.2, h1.ok, ?_⟩, below_then h.2 h.2.size hb⟩
 obtain ⟨v, hx, hL⟩ := h1.ex
 exact ⟨v, hx, hL.mono (fun k hk => ⟨⟨hk.1.1, Nat.lt_of_lt_of_le hk.1.2 hb.size⟩, hk.2⟩)⟩
theorem Fresh.then_ {G G1 : GV} {g1 : Nat} (h : Fresh w W g G) (hd : Did (fun k => w.heap.size ≤ k ∧ k < W.heap.size) W W1 g1 G1) : Fresh w W1 g1 G1 := by
 obtain ⟨O', h1, h2, h3⟩ := hd
 obtain ⟨v, hx, hL⟩ := h1.ex
 have hin : ∀ k, O' k → w.heap.size ≤ k ∧ k < W1.heap.size := fun k hk => ⟨(h2 k hk).elim (fun h => h.1) (fun h' => Nat.le_trans h.2.size h'), h1.ob k hk⟩
 refine ⟨⟨hin _ h1.og, fun k hk => hk.2, h1.ok, v, hx, hL.mono (fun k hk => ⟨hin k hk.1, hk.2⟩)⟩, ?_⟩
 exact h.2.trans (h3.toBelow h.2.size (fun k hk => hk.1))
end
end Go.Proofs.YtblcmcdifgclcaaGreat.Grd
namespace Go.Proofs.YtblcmcdifgclcaaGreat.Grd
open Go.RowKit Go.Proofs.YtblcmcdifgclcaaGreat Go.Proofs.YtblcmcdifgclcaaGreat.PGridPlays Go.Proofs.YtblcmcdifgclcaaGreatW.PrintWords Go.Proofs.YtblcmcdifgclcaaGreatW.PrintLast Go.Proofs.YtblcmcdifgclcaaGreatW.PrintMore
set_option linter.unusedVariables false
set_option linter.unusedSimpArgs false
set_option maxRecDepth 100000
set_option maxHeartbeats 4000000
attribute [local go_sem] isSome_setCell max2_int min2_int max_two min_two
theorem side_ok {x : Int} (h : 1 ≤ x ∧ x ≤ 512) : grid_side.f x = some true := by unfold grid_side.f; rw [if_pos h.1, decide_eq_true h.2]
theorem side_no {x : Int} (h : ¬ (1 ≤ x ∧ x ≤ 512)) : grid_side.f x = some false := by
 unfold grid_side.f
 by_cases h1 : x ≥ 1
 ·rw [if_pos h1, decide_eq_false (by omega)]
 ·rw [if_neg h1]
theorem New_any (rows cols : Int) (hs : gSize rows cols = true) (w : World) :
 Calls Tryz.prog 5 #[.int .i64 rows, .int .i64 cols] w fun e w' => ∃ g, e = .returned (.tuple #[.pointer (some ⟨g, 0, none⟩), .int .i64 0]) ∧ Fresh w w' g (gNew rows cols) := by
 have HG := aS (gNew_ok hs)
 unfold gSize at hs
 rw [Bool.and_eq_true, decide_eq_true_eq, decide_eq_true_eq] at hs
 obtain ⟨h1, h2⟩ := hs
 obtain ⟨n, rfl⟩ : ∃ n : Nat, rows = (n : Int) := ⟨rows.toNat, by omega⟩
 obtain ⟨m, rfl⟩ : ∃ m : Nat, cols = (m : Int) := ⟨cols.toNat, by omega⟩
 have HS1 := aS (side_ok h1)
 have HS2 := aS (side_ok h2)
 have HNM := aS (And.intro h1 h2)
 have HL := aS (lenC_id h2)
 clear h1 h2
 go_enter Tryz.func5, Tryz.ntmps5
 go_wp2_with (first | (go_at_call 20; refine (grid_side.calls (n : Int) _ _ HS1.out).mono ?_; rintro e w1 ⟨rfl, hd⟩; have H1 := aS hd.below; clear hd) | (go_at_call 20; refine (grid_side.calls (m : Int) _ _ HS2.out).mono ?_; rintro e w2 ⟨rfl, hd⟩; have H2 := aS (below_step H1.out hd.below); clear hd))
 have HB0 := aS (GB.new H2.out 0 0 m)
 obtain ⟨g, hg⟩ : ∃ g, w2.heap.size = g := ⟨_, rfl⟩
 rw [hg] at HB0 ⊢
 obtain ⟨wl, hwl⟩ : ∃ wl, w2.alloc (.cells #[.int .i64 0, .int .i64 0, .slice none 0 0, .int .i64 m] 66 (0, 0)) = wl := ⟨_, rfl⟩
 rw [hwl] at HB0 ⊢
 obtain ⟨lb, hlb⟩ : ∃ lb, List.replicate (lenC (m : Int)) (blankP 0 0 0) = lb := ⟨_, rfl⟩
 have HLB := aS hlb
 have HNW := aS (show line_New.f 1000 (m : Int) = some lb by rw [New_ok (m : Int) 1000 (by omega), hlb])
 clear hg hwl hlb H1 H2 HS1 HS2
 go_loopg [19] (n + 1) (fun kq v19 w' => ∃ (i : Nat) (v : Value), v19 = .int .i64 i ∧ Aside0 (kq = n - i + 1 ∧ i ≤ n) ∧ Aside0 (GB w w' g 0 0 m v (List.replicate i lb)))
 case atStart => exact ⟨0, _, by go_num, ⟨by omega, by omega⟩, HB0⟩
 case round =>
  obtain ⟨i, v, rfl, HK, HB⟩ := hrel
  by_cases hi : i < n
  ·have hT : decide (i < n) = true := decide_eq_true (by omega)
   have hw1 : wrap64 ((i : Int) + 1) = ((i + 1 : Nat) : Int) := by rw [w64 (by omega) (by have := HNM.out; omega)]; omega
   have HI := aS hi
   have hc2 := HB.out.cell.1
   clear hi
   go_wp2
   refine start_ (n := 12) (S := fun w' => w'.cell? ⟨g, 2, none⟩ = some v) (ds := [8, 11]) (tb 12 0) (by kernel_rfl) rfl rfl (hc2) (fun hHeld => ?_)
   refine tP 0 (some 21) (tb 12 1) ?_
   refine tP 1 (some 22) (tb 12 3) ?_
   refine tP 2 (some 23) (tb 12 7) ?_
   refine tP 3 (some 24) (tb 12 15) ?_
   refine tP 5 (some 26) (tb 12 47) ?_
   refine take_ (i := 4) (N := some 25) (v := ?_) (a' := ?_) (tb 12 63) rfl rfl (by kernel_rfl) (fun _ _ _ h => h) (Or.inl ⟨by rfl, ?_⟩) hHeld ?_ ?_
   rotate_left
   ·intro w' s0
    go_simp
    with_reducible rfl
   rotate_left
   ·simp only [Act.put, List.setIfInBounds_toArray, List.set_cons_zero, List.set_cons_succ, i64_w, i32_w]
    rfl
   refine sO 6 (some 27) (tb 12 127) (fun K hK => ?_)
   refine gO Tryz.func21 #[.int .i64 m] ?_
   with_reducible refine (line_New.calls 1000 (m : Int) lb _ HNW.out).mono ?_
   rintro e w6 ⟨v6, rfl, hR, hb⟩
   refine ⟨_, rfl, ?_⟩
   obtain ⟨A6, c6, rfl, hc6, -⟩ := Kd.R_reads hR
   have H6 := aS (And.intro (HB.out.below (below_step bE hb)) (show Kd.FK kL w6 (fun k => wr.heap.size ≤ k) lb [.slice A6 lb.length c6] from Kd.FK_slice_mk hc6 (Kd.F_mono (Kd.R_F (Kd.R_bound hR)) (fun k hk => hk.2.1))))
   clear hR hb hc6
   refine hK.out _ _ (H6.out.1.cell.1) (fun hHeld => ?_)
   clear hK K
   refine nm ?_
   refine sO 7 (some 28) (tb 12 255) (fun K hK => ?_)
   refine value_ (w1 := ?_) (v := ?_) (by rfl) rfl ?_ ?_
   rotate_left 2
   ·go_simp
    constructor
    ·rfl
    ·rfl
   refine hK.out _ _ ((H6.out.1.below bE).cell.1) (fun hHeld => ?_)
   clear hK K
   refine nm ?_
   refine last_ (i := 8) (N := some 29) (tb 12 511) rfl rfl (by kernel_rfl) (by decide) (fun K hK => ?_)
   refine Kd.N_append_step kL (w0 := w6) (g + 1) (by rfl) (.tmp 25) (.tmp 28) 64 41 (.slice none 0 0) 24 (by rfl) Tryz.underlying64 infoLn rfl (by decide) (by omega) v (List.replicate i lb) lb [.slice A6 lb.length c6] (fun k => g < k) (fun k => wr.heap.size ≤ k) (by rfl) (by rfl) (Kd.FK_below H6.out.2 bE) ?hokp ?hfresh (Kd.N_below H6.out.1.rows bE) bE ?hsz ?hlen ?_
   case hokp => intro k hk; exact ⟨Nat.lt_of_lt_of_le HB.out.lt hk, fun e => by have := Kd.N_lt HB.out.rows k e.symm; omega⟩
   case hfresh => intro k hk; exact Nat.lt_of_lt_of_le H6.out.1.lt hk
   case hsz => exact H6.out.1.lt
   case hlen => have := HNM.out; have := HI.out; rw [List.length_replicate]; omega
   intro v8 w8 ho hb hg8 hat
   obtain ⟨A8, c8, e8⟩ := Kd.N_slice ho
   generalize (List.replicate i lb ++ [lb]).length = n8 at e8
   subst e8
   have H8 := aS (H6.out.1.more ho hg8)
   have hc8 := H8.out.1
   have hz8 := H8.out.2.1
   clear ho hb hg8 hat
   refine hK.out _ _ ?_
   clear hK K
   refine nm ?_
   refine tP 9 (some 30) (tb 12 1023) ?_
   refine tP 10 (some 31) (tb 12 2047) ?_
   refine last_ (i := 11) (N := none) (tb 12 4095) rfl rfl (by kernel_rfl) (by decide) (fun K hK => ?_)
   refine skip_ (w1 := ?_) (by rfl) rfl ?_ ?_
   rotate_left
   ·go_simp
    rfl
   refine hK.out _ _ ?_
   clear hK K
   refine done_ (by kernel_rfl) ?_
   all_goals go_wp2
   all_goals go_roundg (n - (i + 1) + 1)
   all_goals first | (case measure => have := HK.out; have := HI.out; omega) | (case rel => exact ⟨i + 1, _, by go_num, ⟨rfl, by have := HI.out; omega⟩, ⟨by rw [List.replicate_succ']; exact H8.out.2.2⟩⟩)
  ·have hT : decide (i < n) = false := decide_eq_false hi
   obtain rfl : i = n := by have := HK.out; omega
   clear hi
   go_wp2
   all_goals go_ret2
   refine ⟨g, rfl, ?_⟩
   have := HB.out.done (by have := HG.out; unfold gNew at this; rw [HLB.out] at this; exact this)
   unfold gNew
   rw [HLB.out]
   exact this
theorem New_no (rows cols : Int) (hs : gSize rows cols = false) (w : World) :
 Calls Tryz.prog 5 #[.int .i64 rows, .int .i64 cols] w fun e w' => e = .returned (.tuple #[.pointer none, .int .i64 11]) ∧ Below w.heap.size w w' := by
 by_cases h1 : 1 ≤ rows ∧ rows ≤ 512
 ·have h2 : ¬ (1 ≤ cols ∧ cols ≤ 512) := fun h2 => by unfold gSize at hs; rw [decide_eq_true h1, decide_eq_true h2] at hs; cases hs
  have HS1 := aS (side_ok h1)
  have HS2 := aS (side_no h2)
  have hne : rows ≠ cols := fun e => h2 (e ▸ h1)
  have HN := aS hne
  clear h1 h2 hs hne
  go_enter Tryz.func5, Tryz.ntmps5
  go_wp2_with (first | (go_at_call 20; refine (grid_side.calls rows _ _ HS1.out).mono ?_; rintro e w1 ⟨rfl, hd⟩; have H1 := aS hd.below; clear hd) | (go_at_call 20; refine (grid_side.calls cols _ _ HS2.out).mono ?_; rintro e w2 ⟨rfl, hd⟩; have H2 := aS (below_step H1.out hd.below); clear hd))
  all_goals go_ret2
  all_goals exact ⟨rfl, H2.out⟩
 ·have HS1 := aS (side_no h1)
  clear h1 hs
  go_enter Tryz.func5, Tryz.ntmps5
  go_wp2_with (first | (go_at_call 20; refine (grid_side.calls rows _ _ HS1.out).mono ?_; rintro e w1 ⟨rfl, hd⟩; have H1 := aS hd.below; clear hd))
  all_goals go_ret2
  all_goals exact ⟨rfl, H1.out⟩
end Go.Proofs.YtblcmcdifgclcaaGreat.Grd
