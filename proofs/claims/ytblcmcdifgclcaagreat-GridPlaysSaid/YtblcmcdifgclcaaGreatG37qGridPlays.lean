/- GridPlays: what its proof leads to. No condition. -/
import Derived.Test.YtblcmcdifgclcaaGreatG6qGridPlays
import Derived.Test.YtblcmcdifgclcaaGreatG23qGridPlays
import Derived.Test.YtblcmcdifgclcaaGreatG24qGridPlays
import Derived.Test.YtblcmcdifgclcaaGreatG26qGridPlays
import Derived.Test.YtblcmcdifgclcaaGreatG34qGridPlays
import Derived.Test.YtblcmcdifgclcaaGreatG35qGridPlays
import Derived.Test.YtblcmcdifgclcaaGreatG36qGridPlays
namespace Go.Proofs.YtblcmcdifgclcaaGreat.Grd
open Go.RowKit Go.Proofs.YtblcmcdifgclcaaGreat Go.Proofs.YtblcmcdifgclcaaGreat.PGridPlays Go.Proofs.YtblcmcdifgclcaaGreatW.PrintWords Go.Proofs.YtblcmcdifgclcaaGreatW.PrintLast Go.Proofs.YtblcmcdifgclcaaGreatW.PrintMore
set_option linter.unusedVariables false
set_option linter.unusedSimpArgs false
set_option maxRecDepth 100000
set_option maxHeartbeats 4000000
attribute [local go_sem] isSome_setCell max2_int min2_int max_two min_two
theorem rHas_any {W : World} {ok : Nat → Prop} {A : Option Addr} {c N : Nat} {G : GV} (h : RD kRL W ok (.slice A N c) (toL G.L)) (r : Int) : Calls Tryz.prog 18 #[gV (.slice A N c) G, .int .i64 r] W fun e w' => e = .returned (.bool (gHas G r)) ∧ Below W.heap.size W w' := by
 obtain ⟨A', c', he, hc, hF⟩ := h
 injection he with e1 e2 e3
 subst e1 e2 e3
 exact prolepsisref07_Has.calls A c (toL G.L) G.row G.col r _ W (Kd.F_now hF) hc (Has_ok _ _ _ _)
theorem rCols_any {W : World} {ok : Nat → Prop} {A : Option Addr} {c N : Nat} {G : GV} (h : RD kRL W ok (.slice A N c) (toL G.L)) (hk : G.ok) : Calls Tryz.prog 19 #[gV (.slice A N c) G] W fun e w' => e = .returned (.int .i64 G.cols) ∧ Below W.heap.size W w' := by
 obtain ⟨A', c', he, hc, hF⟩ := h
 injection he with e1 e2 e3
 subst e1 e2 e3
 exact prolepsisref07_Cols.calls A c (toL G.L) G.row G.col _ W (Kd.F_now hF) hc (Cols_ok hk _ _)
theorem rwith_any {W : World} {ok ok2 : Nat → Prop} {A B : Option Addr} {c N d M : Nat} {G : GV} (h : RD kRL W ok (.slice A N c) (toL G.L)) (hL : G.L.length ≤ 512) (n : Nat) {l : List CS} (hl : l.length ≤ 1000) (h2 : RD kRC W ok2 (.slice B M d) (l.map toR)) :
 Calls Tryz.prog 66 #[gV (.slice A N c) G, .int .i64 n, .slice B M d] W fun e w' => ∃ A' c' N', e = .returned (gV (.slice A' N' c') G) ∧ RD kRL w' (fun k => ok k ∨ W.heap.size ≤ k) (.slice A' N' c') (toL (G.L.set n l)) ∧ Below W.heap.size W w' := by
 obtain ⟨A', c', he, hc, hF⟩ := h
 injection he with e1 e2 e3
 subst e1 e2 e3
 obtain ⟨B', d', he, hd, hF2⟩ := h2
 injection he with e1 e2 e3
 subst e1 e2 e3
 refine (prolepsisref07_with.calls 600 ok A c (toL G.L) G.row G.col n B d (l.map toR) _ _ _ W (Kd.V_mk hc hF) (Kd.F_now hF2) hd (with_ok G.L hL n l hl G.row G.col 600 (by omega))).mono ?_
 rintro e w' ⟨v, rfl, hN, hb⟩
 obtain ⟨A1, c1, rfl⟩ := Kd.N_slice hN
 exact ⟨A1, c1, _, rfl, RD.ofN hN, hb⟩
theorem RD.slice {α : Type} {d : Kd α} {W : World} {ok : Nat → Prop} {v : Value} {l : List α} (h : RD d W ok v l) : ∃ A M c, v = .slice A M c := by
 obtain ⟨A, c, rfl, -, -⟩ := h
 exact ⟨A, _, c, rfl⟩
theorem RD.fin {w W5 W6 W7 : World} {ok : Nat → Prop} {v : Value} {L : List (List RC)} {g : Nat} (hd : RD kRL W6 (fun k => (ok k ∧ k < w.heap.size) ∨ W5.heap.size ≤ k) v L) (hg : W6.grownBy W7 (some g)) (h8 : w.heap.size ≤ g) (h5 : g < W5.heap.size) : RD kRL W7 (fun k => ok k ∨ w.heap.size ≤ k) v L := by
 obtain ⟨A, c, rfl, hc, hF⟩ := hd
 refine ⟨A, c, rfl, hc, Kd.F_mono (Kd.F_grown hF hg (fun k hk e => by injection e with e; rcases hk with hk | hk <;> omega)) (fun k hk => ?_)⟩
 rcases hk with hk | hk
 ·exact .inl hk.1
 ·exact .inr (by omega)
def GPost (W : World) (ok : Nat → Prop) (G' : GV) (e : Ending) (w' : World) : Prop := ∃ v, e = .returned (gV v G') ∧ RD kRL w' (fun k => ok k ∨ W.heap.size ≤ k) v (toL G'.L) ∧ Below W.heap.size W w'
def GPostB (W : World) (ok : Nat → Prop) (G' : GV) (b : Bool) (e : Ending) (w' : World) : Prop := ∃ v, e = .returned (.tuple #[gV v G', .bool b]) ∧ RD kRL w' (fun k => ok k ∨ W.heap.size ≤ k) v (toL G'.L) ∧ Below W.heap.size W w'
theorem rgPut_any {G : GV} (hk : G.ok) {w : World} {ok : Nat → Prop} {A : Option Addr} {N c : Nat} (hR : RD kRL w ok (.slice A N c) (toL G.L)) (r : Int) (i : Int) (hi : -9223372036854775808 ≤ i ∧ i ≤ 9223372036854775807) (x : CS) (hx : W32 x) : Calls Tryz.prog 30 #[gV (.slice A N c) G, .int .i64 r, .int .i64 i, refV x] w (GPostB w ok (gPut G r i x).1 (gPut G r i x).2) := by
 have HR := aS hR.bound
 have HK := aS hk
 by_cases hr : gHas G r = true
 ·have HH := aS hr
  obtain ⟨n, rfl, hn, hg⟩ := has_row hr
  have hNN : N = G.L.length := by obtain ⟨A', c', he, -, -⟩ := hR; injection he with e1 e2 e3; rw [e2, toL_len]
  have hnN : n < N := by omega
  obtain ⟨ad, rfl⟩ : ∃ ad, A = some ad := by
   obtain ⟨A', c', he, -, hF⟩ := hR
   injection he with e1 e2 e3
   subst e1
   obtain ⟨ad, cs, h1, -⟩ := Kd.F_get hF [] 0 (by omega) (by rw [toL_len]; omega)
   exact ⟨ad, h1⟩
  obtain ⟨A1, c1, hrc, hrl, hrF⟩ := hR.row hg
  have hll : (gLn G (n : Int)).length ≤ 1000 := by have := hk.len _ (gLn_mem hr); have := hk.c2; omega
  obtain ⟨l, hl⟩ : ∃ l, gLn G (n : Int) = l := ⟨_, rfl⟩
  rw [hl] at hrc hrl hrF hll
  have HRW := aS (And.intro hrc (And.intro hrl (And.intro hrF hll)))
  have HP := aS (rPut_any l i hi x hx hll A1 c1)
  have hres : gPut G (n : Int) i x = (gSet G n (putC l i x), putOk l i x) := by unfold gPut; rw [if_pos hr, hl]
  rw [hres]
  have HLN := aS (show (putC l i x).length ≤ 1000 by rw [put_len _ _ _ hx.2.2.2.1]; exact hll)
  clear hR hk hr hg hrc hrl hrF hll hl hNN hi hx hres
  go_enter Tryz.func30, Tryz.ntmps30
  go_wp2_with (first | (refine bx 4 #[.slice (some ad) N c, .int .i64 G.row, .int .i64 G.col] 32 ?_; intro g4 hg_ w1 hx_ hb_; go_must (have Qw1 := aS (QW.box (o := .cells #[.slice (some ad) N c, .int .i64 G.row, .int .i64 G.col] 32 (0, 0)) (QW.new w) hx_ hg_ hb_)); clear hg_ hx_ hb_) | (refine bx 7 #[.int .i64 x.f0, .int .i64 x.f1.f0, .int .i64 x.f1.f1, .int .u8 x.f2, .int .u8 x.f3.f0, .int .u8 x.f3.f1, .int .u8 x.f3.f2] 52 ?_; intro g7 hg_ w2 hx_ hb_; go_must (have Qw2 := aS (QW.box (o := .cells #[.int .i64 x.f0, .int .i64 x.f1.f0, .int .i64 x.f1.f1, .int .u8 x.f2, .int .u8 x.f3.f0, .int .u8 x.f3.f1, .int .u8 x.f3.f2] 52 (0, 0)) Qw1.out hx_ hg_ hb_)); clear hg_ hx_ hb_) | (refine bx 8 #[.slice none 0 0, .int .i64 0, .int .i64 0] 32 ?_; intro g8 hg_ w3 hx_ hb_; go_must (have Qw3 := aS (QW.box (o := .cells #[.slice none 0 0, .int .i64 0, .int .i64 0] 32 (0, 0)) Qw2.out hx_ hg_ hb_)); clear hg_ hx_ hb_; obtain ⟨g40, g41, g42⟩ := gcells (Qw3.out.bx (g4, gB (.slice (some ad) N c) G) (by simp)).1; obtain ⟨x0, x1, x2, x3, x4, x5, x6⟩ := rcells (Qw3.out.bx (g7, refB x) (by simp)).1) | (go_at_call 18; go_must (refine (rHas_any (HR.out.below Qw3.out.hb) _).mono ?_); rintro e w4 ⟨rfl, hb_⟩; rw [HH.out]; have Qw4 := aS (Qw3.out.below hb_); clear hb_; obtain ⟨g40, g41, g42⟩ := gcells (Qw4.out.bx (g4, gB (.slice (some ad) N c) G) (by simp)).1; obtain ⟨x0, x1, x2, x3, x4, x5, x6⟩ := rcells (Qw4.out.bx (g7, refB x) (by simp)).1; have r4 := pw_cell_below Qw4.out.hb HRW.out.1))
  refine start_ (n := 13) (S := fun w' => w'.cell? ⟨g4, 0, none⟩ = some (.slice (some ad) N c) ∧ w'.cell? (ad.add n) = some (.slice A1 l.length c1) ∧ w'.cell? ⟨g7, 0, none⟩ = some (.int .i64 x.f0) ∧ w'.cell? ⟨g7, 1, none⟩ = some (.int .i64 x.f1.f0) ∧ w'.cell? ⟨g7, 2, none⟩ = some (.int .i64 x.f1.f1) ∧ w'.cell? ⟨g7, 3, none⟩ = some (.int .u8 x.f2) ∧ w'.cell? ⟨g7, 4, none⟩ = some (.int .u8 x.f3.f0) ∧ w'.cell? ⟨g7, 5, none⟩ = some (.int .u8 x.f3.f1) ∧ w'.cell? ⟨g7, 6, none⟩ = some (.int .u8 x.f3.f2)) (ds := [7]) (tb 13 0) (by kernel_rfl) rfl rfl ⟨g40, r4, x0, x1, x2, x3, x4, x5, x6⟩ (fun hHeld => ?_)
  refine tP 0 (some 18) (tb 13 1) ?_
  refine tP 2 (some 20) (tb 13 5) ?_
  refine tP 5 (some 23) (tb 13 37) ?_
  refine tK 1 (some 19) (tb 13 39) ?_
  refine tP 3 (some 21) (tb 13 47) ?_
  refine tK 4 (some 22) (tb 13 63) ?_
  refine tK 6 (some 24) (tb 13 127) ?_
  refine last_ (i := 7) (N := some 25) (tb 13 255) rfl rfl (by kernel_rfl) (by decide) (fun K hK => ?_)
  refine gO Tryz.func65 #[.slice A1 l.length c1, .int .i64 i, refV x] ?_
  with_reducible refine (HP.out _ ok HRW.out.2.1 (Kd.F_below HRW.out.2.2.1 (show Below w.heap.size w _ from (Qw4.out.below bE).hb))).mono ?_
  rintro e w5 ⟨v5, rfl, hd5, hb5⟩
  refine ⟨_, rfl, ?_⟩
  obtain ⟨A5, M5, d5, rfl⟩ := RD.slice hd5
  have Q5 := aS (And.intro (Qw4.out.below (below_step bE hb5)) hd5)
  clear hd5 hb5
  refine hK.out _ _ ?_
  clear hK K
  refine nm ?_
  refine tP 8 (some 17) (tb 13 511) ?_
  refine tP 9 (some 26) (tb 13 1023) ?_
  refine tP 10 (some 27) (tb 13 2047) ?_
  refine tP 11 (some 10) (tb 13 4095) ?_
  refine tP 12 (some 11) (tb 13 8191) ?_
  refine done_ (by kernel_rfl) ?_
  obtain ⟨y0, y1, y2⟩ := gcells (Q5.out.1.bx (g4, gB (.slice (some ad) N c) G) (by simp)).1
  go_wp2_with (first | (go_at_call 66; go_must (refine (rwith_any (HR.out.below Q5.out.1.hb) HK.out.r2 n HLN.out Q5.out.2).mono ?_); rintro e w6 ⟨A6, c6, N6, rfl, hd6, hb6⟩; have Q6 := aS (And.intro (Q5.out.1.below hb6) hd6); clear hd6 hb6) | ((with_reducible refine gate_store (t := 32) (p := 8) rfl ?_); go_must (refine step_whole (.tmp 8) (.tmp 31) rfl rfl rfl rfl rfl (Q6.out.1.bx (g8, gZ) (by simp)).1 rfl (by kernel_rfl) (by simp [Value.oneCell']; done) ?_); intro w7 hx_ hg_; have Qw7 := aS (And.intro (QW.store (l1 := []) (l2 := [(g7, refB x), (g4, gB (.slice (some ad) N c) G)]) (o' := gB (.slice A6 N6 c6) G) Q6.out.1 hx_ hg_) hg_); clear hx_ hg_))
  refine bodyPost_ret (results_ct rfl _ _ g8 32 _ (0, 0) _ rfl (Qw7.out.1.bx (g8, gB (.slice A6 N6 c6) G) (by simp)).1 Tryz.underlying32 rfl rfl) (by rfl) ?_
  exact ⟨_, rfl, RD.fin Q6.out.2 Qw7.out.2 (Q6.out.1.bx (g8, gZ) (by simp)).2 (blk_lt (Q5.out.1.bx (g8, gZ) (by simp)).1), Qw7.out.1.hb⟩
 ·have HH := aS (Bool.eq_false_iff.2 hr)
  have hres : gPut G r i x = (G, false) := by unfold gPut; rw [if_neg hr]
  rw [hres]
  have HRO := aS (RD.slice hR)
  clear hR hk hr hres
  go_enter Tryz.func30, Tryz.ntmps30
  go_wp2_with (first | (refine bx 4 #[.slice A N c, .int .i64 G.row, .int .i64 G.col] 32 ?_; intro g4 hg_ w1 hx_ hb_; go_must (have Qw1 := aS (QW.box (o := .cells #[.slice A N c, .int .i64 G.row, .int .i64 G.col] 32 (0, 0)) (QW.new w) hx_ hg_ hb_)); clear hg_ hx_ hb_) | (refine bx 7 #[.int .i64 x.f0, .int .i64 x.f1.f0, .int .i64 x.f1.f1, .int .u8 x.f2, .int .u8 x.f3.f0, .int .u8 x.f3.f1, .int .u8 x.f3.f2] 52 ?_; intro g7 hg_ w2 hx_ hb_; go_must (have Qw2 := aS (QW.box (o := .cells #[.int .i64 x.f0, .int .i64 x.f1.f0, .int .i64 x.f1.f1, .int .u8 x.f2, .int .u8 x.f3.f0, .int .u8 x.f3.f1, .int .u8 x.f3.f2] 52 (0, 0)) Qw1.out hx_ hg_ hb_)); clear hg_ hx_ hb_) | (refine bx 8 #[.slice none 0 0, .int .i64 0, .int .i64 0] 32 ?_; intro g8 hg_ w3 hx_ hb_; go_must (have Qw3 := aS (QW.box (o := .cells #[.slice none 0 0, .int .i64 0, .int .i64 0] 32 (0, 0)) Qw2.out hx_ hg_ hb_)); clear hg_ hx_ hb_; obtain ⟨g40, g41, g42⟩ := gcells (Qw3.out.bx (g4, gB (.slice A N c) G) (by simp)).1; obtain ⟨x0, x1, x2, x3, x4, x5, x6⟩ := rcells (Qw3.out.bx (g7, refB x) (by simp)).1) | (go_at_call 18; go_must (refine (rHas_any (HR.out.below Qw3.out.hb) _).mono ?_); rintro e w4 ⟨rfl, hb_⟩; rw [HH.out]; have Qw4 := aS (Qw3.out.below hb_); clear hb_; obtain ⟨g40, g41, g42⟩ := gcells (Qw4.out.bx (g4, gB (.slice A N c) G) (by simp)).1; obtain ⟨x0, x1, x2, x3, x4, x5, x6⟩ := rcells (Qw4.out.bx (g7, refB x) (by simp)).1) | ((with_reducible refine gate_store (t := 32) (p := 8) rfl ?_); go_must (refine step_whole (.tmp 8) (.tmp 16) rfl rfl rfl rfl rfl (Qw4.out.bx (g8, gZ) (by simp)).1 rfl (by kernel_rfl) (by simp [Value.oneCell']; done) ?_); intro w5 hx_ hg_; have Qw5 := aS (And.intro (QW.store (l1 := []) (l2 := [(g7, refB x), (g4, gB (.slice A N c) G)]) (o' := gB (.slice A N c) G) Qw4.out hx_ hg_) hg_); clear hx_ hg_))
  refine bodyPost_ret (results_ct rfl _ _ g8 32 _ (0, 0) _ rfl (Qw5.out.1.bx (g8, gB (.slice A N c) G) (by simp)).1 Tryz.underlying32 rfl rfl) (by rfl) ?_
  exact ⟨_, rfl, RD.fin (W5 := w4) ((HR.out.below Qw4.out.hb).mono (fun k hk => .inl hk)) Qw5.out.2 (Qw4.out.bx (g8, gZ) (by simp)).2 (blk_lt (Qw4.out.bx (g8, gZ) (by simp)).1), Qw5.out.1.hb⟩
theorem rgMark_any {G : GV} (hk : G.ok) {w : World} {ok : Nat → Prop} {A : Option Addr} {N c : Nat} (hR : RD kRL w ok (.slice A N c) (toL G.L)) (r : Int) (i m : Int) (hi : -9223372036854775808 ≤ i ∧ i ≤ 9223372036854775807) : Calls Tryz.prog 31 #[gV (.slice A N c) G, .int .i64 r, .int .i64 i, .int .i64 m] w (GPostB w ok (gMark G r i m).1 (gMark G r i m).2) := by
 have HR := aS hR.bound
 have HK := aS hk
 by_cases hr : gHas G r = true
 ·have HH := aS hr
  obtain ⟨n, rfl, hn, hg⟩ := has_row hr
  have hNN : N = G.L.length := by obtain ⟨A', c', he, -, -⟩ := hR; injection he with e1 e2 e3; rw [e2, toL_len]
  have hnN : n < N := by omega
  obtain ⟨ad, rfl⟩ : ∃ ad, A = some ad := by
   obtain ⟨A', c', he, -, hF⟩ := hR
   injection he with e1 e2 e3
   subst e1
   obtain ⟨ad, cs, h1, -⟩ := Kd.F_get hF [] 0 (by omega) (by rw [toL_len]; omega)
   exact ⟨ad, h1⟩
  obtain ⟨A1, c1, hrc, hrl, hrF⟩ := hR.row hg
  have hll : (gLn G (n : Int)).length ≤ 1000 := by have := hk.len _ (gLn_mem hr); have := hk.c2; omega
  obtain ⟨l, hl⟩ : ∃ l, gLn G (n : Int) = l := ⟨_, rfl⟩
  rw [hl] at hrc hrl hrF hll
  have HRW := aS (And.intro hrc (And.intro hrl (And.intro hrF hll)))
  have HP := aS (rMark_any l i m hll A1 c1)
  have hres : gMark G (n : Int) i m = (gSet G n (markL l i m), markOk l i m) := by unfold gMark; rw [if_pos hr, hl]
  rw [hres]
  have HLN := aS (show (markL l i m).length ≤ 1000 by rw [markL_len]; exact hll)
  clear hR hk hr hg hrc hrl hrF hll hl hNN hi hres
  go_enter Tryz.func31, Tryz.ntmps31
  go_wp2_with (first | (refine bx 4 #[.slice (some ad) N c, .int .i64 G.row, .int .i64 G.col] 32 ?_; intro g4 hg_ w1 hx_ hb_; go_must (have Qw1 := aS (QW.box (o := .cells #[.slice (some ad) N c, .int .i64 G.row, .int .i64 G.col] 32 (0, 0)) (QW.new w) hx_ hg_ hb_)); clear hg_ hx_ hb_) | (refine bx 8 #[.slice none 0 0, .int .i64 0, .int .i64 0] 32 ?_; intro g8 hg_ w3 hx_ hb_; go_must (have Qw3 := aS (QW.box (o := .cells #[.slice none 0 0, .int .i64 0, .int .i64 0] 32 (0, 0)) Qw1.out hx_ hg_ hb_)); clear hg_ hx_ hb_; obtain ⟨g40, g41, g42⟩ := gcells (Qw3.out.bx (g4, gB (.slice (some ad) N c) G) (by simp)).1) | (go_at_call 18; go_must (refine (rHas_any (HR.out.below Qw3.out.hb) _).mono ?_); rintro e w4 ⟨rfl, hb_⟩; rw [HH.out]; have Qw4 := aS (Qw3.out.below hb_); clear hb_; obtain ⟨g40, g41, g42⟩ := gcells (Qw4.out.bx (g4, gB (.slice (some ad) N c) G) (by simp)).1; have r4 := pw_cell_below Qw4.out.hb HRW.out.1) | (go_at_call 67; go_must (refine (HP.out _ ok HRW.out.2.1 (Kd.F_below HRW.out.2.2.1 Qw4.out.hb)).mono ?_); rintro e w5 ⟨v5, rfl, hd5, hb5⟩; obtain ⟨A5, M5, d5, rfl⟩ := RD.slice hd5; have Q5 := aS (And.intro (Qw4.out.below hb5) hd5); obtain ⟨y0, y1, y2⟩ := gcells (Q5.out.1.bx (g4, gB (.slice (some ad) N c) G) (by simp)).1; clear hd5 hb5) | (go_at_call 66; go_must (refine (rwith_any (HR.out.below Q5.out.1.hb) HK.out.r2 n HLN.out Q5.out.2).mono ?_); rintro e w6 ⟨A6, c6, N6, rfl, hd6, hb6⟩; have Q6 := aS (And.intro (Q5.out.1.below hb6) hd6); clear hd6 hb6) | ((with_reducible refine gate_store (t := 32) (p := 8) rfl ?_); go_must (refine step_whole (.tmp 8) (.tmp 31) rfl rfl rfl rfl rfl (Q6.out.1.bx (g8, gZ) (by simp)).1 rfl (by kernel_rfl) (by simp [Value.oneCell']; done) ?_); intro w7 hx_ hg_; have Qw7 := aS (And.intro (QW.store (l1 := []) (l2 := [(g4, gB (.slice (some ad) N c) G)]) (o' := gB (.slice A6 N6 c6) G) Q6.out.1 hx_ hg_) hg_); clear hx_ hg_))
  refine bodyPost_ret (results_ct rfl _ _ g8 32 _ (0, 0) _ rfl (Qw7.out.1.bx (g8, gB (.slice A6 N6 c6) G) (by simp)).1 Tryz.underlying32 rfl rfl) (by rfl) ?_
  exact ⟨_, rfl, RD.fin Q6.out.2 Qw7.out.2 (Q6.out.1.bx (g8, gZ) (by simp)).2 (blk_lt (Q5.out.1.bx (g8, gZ) (by simp)).1), Qw7.out.1.hb⟩
 ·have HH := aS (Bool.eq_false_iff.2 hr)
  have hres : gMark G r i m = (G, false) := by unfold gMark; rw [if_neg hr]
  rw [hres]
  have HRO := aS (RD.slice hR)
  clear hR hk hr hres
  go_enter Tryz.func31, Tryz.ntmps31
  go_wp2_with (first | (refine bx 4 #[.slice A N c, .int .i64 G.row, .int .i64 G.col] 32 ?_; intro g4 hg_ w1 hx_ hb_; go_must (have Qw1 := aS (QW.box (o := .cells #[.slice A N c, .int .i64 G.row, .int .i64 G.col] 32 (0, 0)) (QW.new w) hx_ hg_ hb_)); clear hg_ hx_ hb_) | (refine bx 8 #[.slice none 0 0, .int .i64 0, .int .i64 0] 32 ?_; intro g8 hg_ w3 hx_ hb_; go_must (have Qw3 := aS (QW.box (o := .cells #[.slice none 0 0, .int .i64 0, .int .i64 0] 32 (0, 0)) Qw1.out hx_ hg_ hb_)); clear hg_ hx_ hb_; obtain ⟨g40, g41, g42⟩ := gcells (Qw3.out.bx (g4, gB (.slice A N c) G) (by simp)).1) | (go_at_call 18; go_must (refine (rHas_any (HR.out.below Qw3.out.hb) _).mono ?_); rintro e w4 ⟨rfl, hb_⟩; rw [HH.out]; have Qw4 := aS (Qw3.out.below hb_); clear hb_; obtain ⟨g40, g41, g42⟩ := gcells (Qw4.out.bx (g4, gB (.slice A N c) G) (by simp)).1) | ((with_reducible refine gate_store (t := 32) (p := 8) rfl ?_); go_must (refine step_whole (.tmp 8) (.tmp 16) rfl rfl rfl rfl rfl (Qw4.out.bx (g8, gZ) (by simp)).1 rfl (by kernel_rfl) (by simp [Value.oneCell']; done) ?_); intro w5 hx_ hg_; have Qw5 := aS (And.intro (QW.store (l1 := []) (l2 := [(g4, gB (.slice A N c) G)]) (o' := gB (.slice A N c) G) Qw4.out hx_ hg_) hg_); clear hx_ hg_))
  refine bodyPost_ret (results_ct rfl _ _ g8 32 _ (0, 0) _ rfl (Qw5.out.1.bx (g8, gB (.slice A N c) G) (by simp)).1 Tryz.underlying32 rfl rfl) (by rfl) ?_
  exact ⟨_, rfl, RD.fin (W5 := w4) ((HR.out.below Qw4.out.hb).mono (fun k hk => .inl hk)) Qw5.out.2 (Qw4.out.bx (g8, gZ) (by simp)).2 (blk_lt (Qw4.out.bx (g8, gZ) (by simp)).1), Qw5.out.1.hb⟩
abbrev penR4 (p0 p1 p2 : Int) : Obj := .cells #[.int .u8 p0, .int .u8 p1, .int .u8 p2] 50 (0, 0)
theorem pcells {W : World} {g : Nat} {p0 p1 p2 : Int} (h : W.heap[g]? = some (penR4 p0 p1 p2)) : W.cell? ⟨g, 0, none⟩ = some (.int .u8 p0) ∧ W.cell? ⟨g, 1, none⟩ = some (.int .u8 p1) ∧ W.cell? ⟨g, 2, none⟩ = some (.int .u8 p2) := ⟨(blk_cell h 0).trans rfl, (blk_cell h 1).trans rfl, (blk_cell h 2).trans rfl⟩
theorem rErase_any (l : List CS) (a b p0 p1 p2 : Int) (hl : l.length ≤ 1000) (A : Option Addr) (c : Nat) (w : World) (ok : Nat → Prop) (hc : l.length ≤ c) (hF : Kd.F kRC w ok A l.length (l.map toR)) :
 Calls Tryz.prog 72 #[.slice A l.length c, .int .i64 a, .int .i64 b, penV p0 p1 p2] w fun e w' => ∃ v, e = .returned v ∧ RD kRC w' (fun k => w.heap.size ≤ k) v ((eraseC l a b p0 p1 p2).map toR) ∧ Below w.heap.size w w' := by
 have h := prolepsisref06_Erase.calls 4000 A c (l.map toR) a b p0 p1 p2 _ w (by rw [List.length_map]; exact Kd.F_now hF) (by rw [List.length_map]; exact hc) (rErase_ok l (by omega) a b p0 p1 p2 4000 (by omega))
 rw [List.length_map] at h
 exact h.mono fun e w' ⟨v, h1, h2, h3⟩ => ⟨v, h1, RD.ofR h2, h3⟩
theorem rgErase_any {G : GV} (hk : G.ok) {w : World} {ok : Nat → Prop} {A : Option Addr} {N c : Nat} (hR : RD kRL w ok (.slice A N c) (toL G.L)) (r : Int) (i m p0 p1 p2 : Int) : Calls Tryz.prog 34 #[gV (.slice A N c) G, .int .i64 r, .int .i64 i, .int .i64 m, penV p0 p1 p2] w (GPost w ok (gErase G r i m p0 p1 p2)) := by
 have HR := aS hR.bound
 have HK := aS hk
 by_cases hr : gHas G r = true
 ·have HH := aS hr
  by_cases hp : penR p0 p1 p2 = true
  ·have HPR := aS (show prolepsisref04_Right.f p0 p1 p2 = some true by rw [r4_ok, hp])
   obtain ⟨n, rfl, hn, hg⟩ := has_row hr
   have hNN : N = G.L.length := by obtain ⟨A', c', he, -, -⟩ := hR; injection he with e1 e2 e3; rw [e2, toL_len]
   have hnN : n < N := by omega
   obtain ⟨ad, rfl⟩ : ∃ ad, A = some ad := by
    obtain ⟨A', c', he, -, hF⟩ := hR
    injection he with e1 e2 e3
    subst e1
    obtain ⟨ad, cs, h1, -⟩ := Kd.F_get hF [] 0 (by omega) (by rw [toL_len]; omega)
    exact ⟨ad, h1⟩
   obtain ⟨A1, c1, hrc, hrl, hrF⟩ := hR.row hg
   have hll : (gLn G (n : Int)).length ≤ 1000 := by have := hk.len _ (gLn_mem hr); have := hk.c2; omega
   obtain ⟨l, hl⟩ : ∃ l, gLn G (n : Int) = l := ⟨_, rfl⟩
   rw [hl] at hrc hrl hrF hll
   have HRW := aS (And.intro hrc (And.intro hrl (And.intro hrF hll)))
   have HP := aS (rErase_any l i m p0 p1 p2 hll A1 c1)
   have hres : gErase G (n : Int) i m p0 p1 p2 = gSet G n (eraseC l i m p0 p1 p2) := by unfold gErase; rw [if_pos ⟨hr, hp⟩, hl]
   rw [hres]
   have HLN := aS (show (eraseC l i m p0 p1 p2).length ≤ 1000 by rw [erase_len]; exact hll)
   clear hR hk hr hg hrc hrl hrF hll hl hNN hres hp
   go_enter Tryz.func34, Tryz.ntmps34
   go_wp2_with (first | (refine bx 5 #[.slice (some ad) N c, .int .i64 G.row, .int .i64 G.col] 32 ?_; intro g4 hg_ w1 hx_ hb_; go_must (have Qw1 := aS (QW.box (o := .cells #[.slice (some ad) N c, .int .i64 G.row, .int .i64 G.col] 32 (0, 0)) (QW.new w) hx_ hg_ hb_)); clear hg_ hx_ hb_) | (refine bx 9 #[.int .u8 p0, .int .u8 p1, .int .u8 p2] 50 ?_; intro g9 hg_ w2 hx_ hb_; go_must (have Qw2 := aS (QW.box (o := .cells #[.int .u8 p0, .int .u8 p1, .int .u8 p2] 50 (0, 0)) Qw1.out hx_ hg_ hb_)); clear hg_ hx_ hb_) | (refine bx 10 #[.slice none 0 0, .int .i64 0, .int .i64 0] 32 ?_; intro g8 hg_ w3 hx_ hb_; go_must (have Qw3 := aS (QW.box (o := .cells #[.slice none 0 0, .int .i64 0, .int .i64 0] 32 (0, 0)) Qw2.out hx_ hg_ hb_)); clear hg_ hx_ hb_; obtain ⟨g40, g41, g42⟩ := gcells (Qw3.out.bx (g4, gB (.slice (some ad) N c) G) (by simp)).1; obtain ⟨p00, p01, p02⟩ := pcells (Qw3.out.bx (g9, penR4 p0 p1 p2) (by simp)).1) | (go_at_call 18; go_must (refine (rHas_any (HR.out.below Qw3.out.hb) _).mono ?_); rintro e w4 ⟨rfl, hb_⟩; rw [HH.out]; have Qw4 := aS (Qw3.out.below hb_); clear hb_; obtain ⟨g40, g41, g42⟩ := gcells (Qw4.out.bx (g4, gB (.slice (some ad) N c) G) (by simp)).1; obtain ⟨p00, p01, p02⟩ := pcells (Qw4.out.bx (g9, penR4 p0 p1 p2) (by simp)).1) | (go_at_call 71; go_must (refine (prolepsisref04_Right.calls p0 p1 p2 _ _ HPR.out).mono ?_); rintro e w5 ⟨rfl, hb_⟩; have Qw5 := aS (Qw4.out.below hb_); clear hb_; obtain ⟨g40, g41, g42⟩ := gcells (Qw5.out.bx (g4, gB (.slice (some ad) N c) G) (by simp)).1; obtain ⟨p00, p01, p02⟩ := pcells (Qw5.out.bx (g9, penR4 p0 p1 p2) (by simp)).1; have r4 := pw_cell_below Qw5.out.hb HRW.out.1))
   refine start_ (n := 13) (S := fun w' => w'.cell? ⟨g4, 0, none⟩ = some (.slice (some ad) N c) ∧ w'.cell? ⟨g4, 1, none⟩ = some (.int .i64 G.row) ∧ w'.cell? ⟨g4, 2, none⟩ = some (.int .i64 G.col) ∧ w'.cell? (ad.add n) = some (.slice A1 l.length c1) ∧ w'.cell? ⟨g9, 0, none⟩ = some (.int .u8 p0) ∧ w'.cell? ⟨g9, 1, none⟩ = some (.int .u8 p1) ∧ w'.cell? ⟨g9, 2, none⟩ = some (.int .u8 p2)) (ds := [11, 12]) (tb 13 0) (by kernel_rfl) rfl rfl ⟨g40, g41, g42, r4, p00, p01, p02⟩ (fun hHeld => ?_)
   refine tP 1 (some 22) (tb 13 2) ?_
   refine tP 2 (some 23) (tb 13 6) ?_
   refine tP 4 (some 25) (tb 13 22) ?_
   refine tP 7 (some 28) (tb 13 150) ?_
   refine tP 8 (some 29) (tb 13 406) ?_
   refine tK 0 (some 21) (tb 13 407) ?_
   refine tK 3 (some 24) (tb 13 415) ?_
   refine tP 5 (some 26) (tb 13 447) ?_
   refine tK 6 (some 27) (tb 13 511) ?_
   refine tK 9 (some 30) (tb 13 1023) ?_
   refine sO 10 (some 31) (tb 13 2047) (fun K hK => ?_)
   refine gO Tryz.func72 #[.slice A1 l.length c1, .int .i64 i, .int .i64 m, penV p0 p1 p2] ?_
   with_reducible refine (HP.out _ ok HRW.out.2.1 (Kd.F_below HRW.out.2.2.1 (show Below w.heap.size w _ from (Qw5.out.below bE).hb))).mono ?_
   rintro e w6 ⟨v6, rfl, hd6, hb6⟩
   refine ⟨_, rfl, ?_⟩
   obtain ⟨A5, M5, d5, rfl⟩ := RD.slice hd6
   have Q5 := aS (And.intro (Qw5.out.below (below_step bE hb6)) hd6)
   clear hd6 hb6
   refine hK.out _ _ ⟨(gcells (Q5.out.1.bx (g4, gB (.slice (some ad) N c) G) (by simp)).1).1, (gcells (Q5.out.1.bx (g4, gB (.slice (some ad) N c) G) (by simp)).1).2.1, (gcells (Q5.out.1.bx (g4, gB (.slice (some ad) N c) G) (by simp)).1).2.2, (pw_cell_below Q5.out.1.hb HRW.out.1), (pcells (Q5.out.1.bx (g9, penR4 p0 p1 p2) (by simp)).1).1, (pcells (Q5.out.1.bx (g9, penR4 p0 p1 p2) (by simp)).1).2.1, (pcells (Q5.out.1.bx (g9, penR4 p0 p1 p2) (by simp)).1).2.2⟩ (fun hHeld => ?_)
   clear hK K
   refine nm ?_
   refine last_ (i := 11) (N := some 32) (tb 13 4095) rfl rfl (by kernel_rfl) (by decide) (fun K hK => ?_)
   refine gO Tryz.func66 #[gV (.slice (some ad) N c) G, .int .i64 n, .slice A5 M5 d5] ?_
   with_reducible refine (rwith_any (HR.out.below Q5.out.1.hb) HK.out.r2 n HLN.out Q5.out.2).mono ?_
   rintro e w7 ⟨A6, c6, N6, rfl, hd6, hb6⟩
   refine ⟨_, rfl, ?_⟩
   have Q6 := aS (And.intro (Q5.out.1.below hb6) hd6)
   clear hd6 hb6
   refine hK.out _ _ ?_
   clear hK K
   refine nm ?_
   refine last_ (i := 12) (N := none) (tb 13 8191) rfl rfl (by kernel_rfl) (by decide) (fun K hK => ?_)
   refine whole_step (cs' := #[.slice A6 N6 c6, .int .i64 G.row, .int .i64 G.col]) (by rfl) (.tmp 10) (.tmp 32) rfl rfl (by rfl) (by rfl) (Q6.out.1.bx (g8, gZ) (by simp)).1 rfl (by kernel_rfl) (by simp [Value.oneCell']; done) ?_
   intro w8 hx_ hg_
   have Qw7 := aS (And.intro (QW.store (l1 := []) (l2 := [(g9, penR4 p0 p1 p2), (g4, gB (.slice (some ad) N c) G)]) (o' := gB (.slice A6 N6 c6) G) Q6.out.1 hx_ hg_) hg_)
   clear hx_ hg_
   refine hK.out _ _ ?_
   clear hK K
   refine done_ (by kernel_rfl) ?_
   all_goals go_wp2
   all_goals refine bodyPost_ret (results_cell_row rfl _ _ g8 32 _ (0, 0) _ rfl (Qw7.out.1.below bE |>.bx (g8, gB (.slice A6 N6 c6) G) (by simp)).1 Tryz.underlying32 rfl (by kernel_rfl)) rfl ?_
   all_goals exact ⟨_, rfl, (RD.fin Q6.out.2 Qw7.out.2 (Q6.out.1.bx (g8, gZ) (by simp)).2 (blk_lt (Q5.out.1.bx (g8, gZ) (by simp)).1)).below bE, (Qw7.out.1.below bE).hb⟩
  ·have HPR := aS (show prolepsisref04_Right.f p0 p1 p2 = some false by rw [r4_ok, Bool.eq_false_iff.2 hp])
   have hres : gErase G r i m p0 p1 p2 = G := by unfold gErase; rw [if_neg (fun h => hp h.2)]
   rw [hres]
   obtain ⟨_, _, _, -⟩ := RD.slice hR
   clear hR hk hr hres hp
   go_enter Tryz.func34, Tryz.ntmps34
   go_wp2_with (first | (refine bx 5 #[.slice A N c, .int .i64 G.row, .int .i64 G.col] 32 ?_; intro g4 hg_ w1 hx_ hb_; go_must (have Qw1 := aS (QW.box (o := .cells #[.slice A N c, .int .i64 G.row, .int .i64 G.col] 32 (0, 0)) (QW.new w) hx_ hg_ hb_)); clear hg_ hx_ hb_) | (refine bx 9 #[.int .u8 p0, .int .u8 p1, .int .u8 p2] 50 ?_; intro g9 hg_ w2 hx_ hb_; go_must (have Qw2 := aS (QW.box (o := .cells #[.int .u8 p0, .int .u8 p1, .int .u8 p2] 50 (0, 0)) Qw1.out hx_ hg_ hb_)); clear hg_ hx_ hb_) | (refine bx 10 #[.slice none 0 0, .int .i64 0, .int .i64 0] 32 ?_; intro g8 hg_ w3 hx_ hb_; go_must (have Qw3 := aS (QW.box (o := .cells #[.slice none 0 0, .int .i64 0, .int .i64 0] 32 (0, 0)) Qw2.out hx_ hg_ hb_)); clear hg_ hx_ hb_; obtain ⟨g40, g41, g42⟩ := gcells (Qw3.out.bx (g4, gB (.slice A N c) G) (by simp)).1; obtain ⟨p00, p01, p02⟩ := pcells (Qw3.out.bx (g9, penR4 p0 p1 p2) (by simp)).1) | (go_at_call 18; go_must (refine (rHas_any (HR.out.below Qw3.out.hb) _).mono ?_); rintro e w4 ⟨rfl, hb_⟩; rw [HH.out]; have Qw4 := aS (Qw3.out.below hb_); clear hb_; obtain ⟨g40, g41, g42⟩ := gcells (Qw4.out.bx (g4, gB (.slice A N c) G) (by simp)).1; obtain ⟨p00, p01, p02⟩ := pcells (Qw4.out.bx (g9, penR4 p0 p1 p2) (by simp)).1) | (go_at_call 71; go_must (refine (prolepsisref04_Right.calls p0 p1 p2 _ _ HPR.out).mono ?_); rintro e w5 ⟨rfl, hb_⟩; have Qw5 := aS (Qw4.out.below hb_); clear hb_; obtain ⟨g40, g41, g42⟩ := gcells (Qw5.out.bx (g4, gB (.slice A N c) G) (by simp)).1; obtain ⟨p00, p01, p02⟩ := pcells (Qw5.out.bx (g9, penR4 p0 p1 p2) (by simp)).1) | ((with_reducible refine gate_store (t := 32) (p := 10) rfl ?_); go_must (refine step_whole (.tmp 10) (.tmp 20) rfl rfl rfl rfl rfl (Qw5.out.bx (g8, gZ) (by simp)).1 rfl (by kernel_rfl) (by simp [Value.oneCell']; done) ?_); intro w6 hx_ hg_; have Qw6 := aS (And.intro (QW.store (l1 := []) (l2 := [(g9, penR4 p0 p1 p2), (g4, gB (.slice A N c) G)]) (o' := gB (.slice A N c) G) Qw5.out hx_ hg_) hg_); clear hx_ hg_))
   refine bodyPost_ret (results_cell_row rfl _ _ g8 32 _ (0, 0) _ rfl (Qw6.out.1.bx (g8, gB (.slice A N c) G) (by simp)).1 Tryz.underlying32 rfl (by kernel_rfl)) rfl ?_
   exact ⟨_, rfl, RD.fin (W5 := w5) ((HR.out.below Qw5.out.hb).mono (fun k hk => .inl hk)) Qw6.out.2 (Qw5.out.bx (g8, gZ) (by simp)).2 (blk_lt (Qw5.out.bx (g8, gZ) (by simp)).1), Qw6.out.1.hb⟩
 ·have HH := aS (Bool.eq_false_iff.2 hr)
  have hres : gErase G r i m p0 p1 p2 = G := by unfold gErase; rw [if_neg (fun h => hr h.1)]
  rw [hres]
  have HRO := aS (RD.slice hR)
  clear hR hk hr hres
  go_enter Tryz.func34, Tryz.ntmps34
  go_wp2_with (first | (refine bx 5 #[.slice A N c, .int .i64 G.row, .int .i64 G.col] 32 ?_; intro g4 hg_ w1 hx_ hb_; go_must (have Qw1 := aS (QW.box (o := .cells #[.slice A N c, .int .i64 G.row, .int .i64 G.col] 32 (0, 0)) (QW.new w) hx_ hg_ hb_)); clear hg_ hx_ hb_) | (refine bx 9 #[.int .u8 p0, .int .u8 p1, .int .u8 p2] 50 ?_; intro g9 hg_ w2 hx_ hb_; go_must (have Qw2 := aS (QW.box (o := .cells #[.int .u8 p0, .int .u8 p1, .int .u8 p2] 50 (0, 0)) Qw1.out hx_ hg_ hb_)); clear hg_ hx_ hb_) | (refine bx 10 #[.slice none 0 0, .int .i64 0, .int .i64 0] 32 ?_; intro g8 hg_ w3 hx_ hb_; go_must (have Qw3 := aS (QW.box (o := .cells #[.slice none 0 0, .int .i64 0, .int .i64 0] 32 (0, 0)) Qw2.out hx_ hg_ hb_)); clear hg_ hx_ hb_; obtain ⟨g40, g41, g42⟩ := gcells (Qw3.out.bx (g4, gB (.slice A N c) G) (by simp)).1; obtain ⟨p00, p01, p02⟩ := pcells (Qw3.out.bx (g9, penR4 p0 p1 p2) (by simp)).1) | (go_at_call 18; go_must (refine (rHas_any (HR.out.below Qw3.out.hb) _).mono ?_); rintro e w4 ⟨rfl, hb_⟩; rw [HH.out]; have Qw4 := aS (Qw3.out.below hb_); clear hb_; obtain ⟨g40, g41, g42⟩ := gcells (Qw4.out.bx (g4, gB (.slice A N c) G) (by simp)).1; obtain ⟨p00, p01, p02⟩ := pcells (Qw4.out.bx (g9, penR4 p0 p1 p2) (by simp)).1) | ((with_reducible refine gate_store (t := 32) (p := 10) rfl ?_); go_must (refine step_whole (.tmp 10) (.tmp 20) rfl rfl rfl rfl rfl (Qw4.out.bx (g8, gZ) (by simp)).1 rfl (by kernel_rfl) (by simp [Value.oneCell']; done) ?_); intro w5 hx_ hg_; have Qw5 := aS (And.intro (QW.store (l1 := []) (l2 := [(g9, penR4 p0 p1 p2), (g4, gB (.slice A N c) G)]) (o' := gB (.slice A N c) G) Qw4.out hx_ hg_) hg_); clear hx_ hg_))
  refine bodyPost_ret (results_cell_row rfl _ _ g8 32 _ (0, 0) _ rfl (Qw5.out.1.bx (g8, gB (.slice A N c) G) (by simp)).1 Tryz.underlying32 rfl (by kernel_rfl)) rfl ?_
  exact ⟨_, rfl, RD.fin (W5 := w4) ((HR.out.below Qw4.out.hb).mono (fun k hk => .inl hk)) Qw5.out.2 (Qw4.out.bx (g8, gZ) (by simp)).2 (blk_lt (Qw4.out.bx (g8, gZ) (by simp)).1), Qw5.out.1.hb⟩
theorem rgLay_any {G : GV} (hk : G.ok) {w : World} {ok : Nat → Prop} {A : Option Addr} {N c : Nat} (hR : RD kRL w ok (.slice A N c) (toL G.L)) (r : Int) {B : Option Addr} {d : Nat} {ok2 : Nat → Prop} (l : List CS) (hl : l.length ≤ 1000) (h8 : ∀ x ∈ l, W32 x) (hd : l.length ≤ d) (hF : Kd.F kRC w ok2 B l.length (l.map toR)) : Calls Tryz.prog 36 #[gV (.slice A N c) G, .int .i64 r, .slice B l.length d] w (GPostB w ok (gLay G r l).1 (gLay G r l).2) := by
 have HR := aS hR.bound
 have HK := aS hk
 have HF := aS (show RD kRC w ok2 (.slice B l.length d) (l.map toR) from ⟨B, d, by rw [List.length_map], by rw [List.length_map]; exact hd, by rw [List.length_map]; exact hF⟩)
 have HC := aS (And.intro hd (And.intro hF (show prolepsisref06_Right.f 4000 (l.map toR) = some (rightL l) from rRightL_ok l h8 (by omega) 4000 (by omega))))
 have HLN := aS hl
 clear h8 hd hF
 by_cases hr : gHas G r = true
 ·have HH := aS hr
  by_cases hc : l.length = G.cols
  ·have hcb : ((l.length : Int) != (G.cols : Int)) = false := by rw [bne_eq_false_iff_eq]; omega
   have hcb2 : (l.length != G.cols) = false := by rw [bne_eq_false_iff_eq]; omega
   by_cases hq : rightL l = true
   ·have HPR := aS (show prolepsisref06_Right.f 4000 (l.map toR) = some true by rw [HC.out.2.2, hq])
    obtain ⟨n, rfl, hn, hg⟩ := has_row hr
    have hres : gLay G (n : Int) l = (gSet G n l, true) := by unfold gLay; rw [if_pos ⟨hr, hc, hq⟩]
    rw [hres]
    clear hR hk hr hc hq hres hg hn hl
    go_enter Tryz.func36, Tryz.ntmps36
    go_wp2_with (first | (refine bx 3 #[.slice A N c, .int .i64 G.row, .int .i64 G.col] 32 ?_; intro g4 hg_ w1 hx_ hb_; go_must (have Qw1 := aS (QW.box (o := .cells #[.slice A N c, .int .i64 G.row, .int .i64 G.col] 32 (0, 0)) (QW.new w) hx_ hg_ hb_)); clear hg_ hx_ hb_) | (refine bx 6 #[.slice none 0 0, .int .i64 0, .int .i64 0] 32 ?_; intro g8 hg_ w3 hx_ hb_; go_must (have Qw3 := aS (QW.box (o := .cells #[.slice none 0 0, .int .i64 0, .int .i64 0] 32 (0, 0)) Qw1.out hx_ hg_ hb_)); clear hg_ hx_ hb_; obtain ⟨g40, g41, g42⟩ := gcells (Qw3.out.bx (g4, gB (.slice A N c) G) (by simp)).1) | (go_at_call 18; go_must (refine (rHas_any (HR.out.below Qw3.out.hb) _).mono ?_); rintro e w4 ⟨rfl, hb_⟩; rw [HH.out]; have Qw4 := aS (Qw3.out.below hb_); clear hb_; obtain ⟨g40, g41, g42⟩ := gcells (Qw4.out.bx (g4, gB (.slice A N c) G) (by simp)).1) | (go_at_call 19; go_must (refine (rCols_any (HR.out.below Qw4.out.hb) HK.out).mono ?_); rintro e w5 ⟨rfl, hb_⟩; have Qw5 := aS (Qw4.out.below hb_); clear hb_; obtain ⟨g40, g41, g42⟩ := gcells (Qw5.out.bx (g4, gB (.slice A N c) G) (by simp)).1) | (go_at_call 50; go_must (refine (show Calls Tryz.prog 50 #[.slice B l.length d] w5 fun e w' => e = .returned (.bool true) ∧ Below w5.heap.size w5 w' from by have h := prolepsisref06_Right.calls 4000 B d (l.map toR) _ w5 (by rw [List.length_map]; exact Kd.C_below (Kd.F_now HC.out.2.1) Qw5.out.hb) (by rw [List.length_map]; exact HC.out.1) HPR.out; rw [List.length_map] at h; exact h).mono ?_); rintro e w6 ⟨rfl, hb_⟩; have Qw6 := aS (Qw5.out.below hb_); clear hb_; obtain ⟨g40, g41, g42⟩ := gcells (Qw6.out.bx (g4, gB (.slice A N c) G) (by simp)).1) | (go_at_call 66; go_must (refine (rwith_any (HR.out.below Qw6.out.hb) HK.out.r2 n HLN.out (HF.out.below Qw6.out.hb)).mono ?_); rintro e w7 ⟨A6, c6, N6, rfl, hd6, hb6⟩; have Q6 := aS (And.intro (Qw6.out.below hb6) hd6); clear hd6 hb6) | ((with_reducible refine gate_store (t := 32) (p := 6) rfl ?_); go_must (refine step_whole (.tmp 6) (.tmp 28) rfl rfl rfl rfl rfl (Q6.out.1.bx (g8, gZ) (by simp)).1 rfl (by kernel_rfl) (by simp [Value.oneCell']; done) ?_); intro w8 hx_ hg_; have Qw8 := aS (And.intro (QW.store (l1 := []) (l2 := [(g4, gB (.slice A N c) G)]) (o' := gB (.slice A6 N6 c6) G) Q6.out.1 hx_ hg_) hg_); clear hx_ hg_))
    refine bodyPost_ret (results_ct rfl _ _ g8 32 _ (0, 0) _ rfl (Qw8.out.1.bx (g8, gB (.slice A6 N6 c6) G) (by simp)).1 Tryz.underlying32 rfl rfl) (by rfl) ?_
    exact ⟨_, rfl, RD.fin Q6.out.2 Qw8.out.2 (Q6.out.1.bx (g8, gZ) (by simp)).2 (blk_lt (Qw6.out.bx (g8, gZ) (by simp)).1), Qw8.out.1.hb⟩
   ·have HPR := aS (show prolepsisref06_Right.f 4000 (l.map toR) = some false by rw [HC.out.2.2, Bool.eq_false_iff.2 hq])
    have hres : gLay G r l = (G, false) := by unfold gLay; rw [if_neg (fun h => hq h.2.2)]
    rw [hres]
    obtain ⟨_, _, _, -⟩ := RD.slice hR
    clear hR hk hr hc hq hres hl
    go_enter Tryz.func36, Tryz.ntmps36
    go_wp2_with (first | (refine bx 3 #[.slice A N c, .int .i64 G.row, .int .i64 G.col] 32 ?_; intro g4 hg_ w1 hx_ hb_; go_must (have Qw1 := aS (QW.box (o := .cells #[.slice A N c, .int .i64 G.row, .int .i64 G.col] 32 (0, 0)) (QW.new w) hx_ hg_ hb_)); clear hg_ hx_ hb_) | (refine bx 6 #[.slice none 0 0, .int .i64 0, .int .i64 0] 32 ?_; intro g8 hg_ w3 hx_ hb_; go_must (have Qw3 := aS (QW.box (o := .cells #[.slice none 0 0, .int .i64 0, .int .i64 0] 32 (0, 0)) Qw1.out hx_ hg_ hb_)); clear hg_ hx_ hb_; obtain ⟨g40, g41, g42⟩ := gcells (Qw3.out.bx (g4, gB (.slice A N c) G) (by simp)).1) | (go_at_call 18; go_must (refine (rHas_any (HR.out.below Qw3.out.hb) _).mono ?_); rintro e w4 ⟨rfl, hb_⟩; rw [HH.out]; have Qw4 := aS (Qw3.out.below hb_); clear hb_; obtain ⟨g40, g41, g42⟩ := gcells (Qw4.out.bx (g4, gB (.slice A N c) G) (by simp)).1) | (go_at_call 19; go_must (refine (rCols_any (HR.out.below Qw4.out.hb) HK.out).mono ?_); rintro e w5 ⟨rfl, hb_⟩; have Qw5 := aS (Qw4.out.below hb_); clear hb_; obtain ⟨g40, g41, g42⟩ := gcells (Qw5.out.bx (g4, gB (.slice A N c) G) (by simp)).1) | (go_at_call 50; go_must (refine (show Calls Tryz.prog 50 #[.slice B l.length d] w5 fun e w' => e = .returned (.bool false) ∧ Below w5.heap.size w5 w' from by have h := prolepsisref06_Right.calls 4000 B d (l.map toR) _ w5 (by rw [List.length_map]; exact Kd.C_below (Kd.F_now HC.out.2.1) Qw5.out.hb) (by rw [List.length_map]; exact HC.out.1) HPR.out; rw [List.length_map] at h; exact h).mono ?_); rintro e w6 ⟨rfl, hb_⟩; have Qw6 := aS (Qw5.out.below hb_); clear hb_; obtain ⟨g40, g41, g42⟩ := gcells (Qw6.out.bx (g4, gB (.slice A N c) G) (by simp)).1) | ((with_reducible refine gate_store (t := 32) (p := 6) rfl ?_); go_must (refine step_whole (.tmp 6) (.tmp 24) rfl rfl rfl rfl rfl (Qw6.out.bx (g8, gZ) (by simp)).1 rfl (by kernel_rfl) (by simp [Value.oneCell']; done) ?_); intro w7 hx_ hg_; have Qw7 := aS (And.intro (QW.store (l1 := []) (l2 := [(g4, gB (.slice A N c) G)]) (o' := gB (.slice A N c) G) Qw6.out hx_ hg_) hg_); clear hx_ hg_))
    refine bodyPost_ret (results_ct rfl _ _ g8 32 _ (0, 0) _ rfl (Qw7.out.1.bx (g8, gB (.slice A N c) G) (by simp)).1 Tryz.underlying32 rfl rfl) (by rfl) ?_
    exact ⟨_, rfl, RD.fin (W5 := w6) ((HR.out.below Qw6.out.hb).mono (fun k hk => .inl hk)) Qw7.out.2 (Qw6.out.bx (g8, gZ) (by simp)).2 (blk_lt (Qw6.out.bx (g8, gZ) (by simp)).1), Qw7.out.1.hb⟩
  ·have hcb : ((l.length : Int) != (G.cols : Int)) = true := by rw [bne_iff_ne]; omega
   have hcb2 : (l.length != G.cols) = true := by rw [bne_iff_ne]; omega
   have hres : gLay G r l = (G, false) := by unfold gLay; rw [if_neg (fun h => hc h.2.1)]
   rw [hres]
   clear hR hk hr hc hres hl
   go_enter Tryz.func36, Tryz.ntmps36
   go_wp2_with (first | (refine bx 3 #[.slice A N c, .int .i64 G.row, .int .i64 G.col] 32 ?_; intro g4 hg_ w1 hx_ hb_; go_must (have Qw1 := aS (QW.box (o := .cells #[.slice A N c, .int .i64 G.row, .int .i64 G.col] 32 (0, 0)) (QW.new w) hx_ hg_ hb_)); clear hg_ hx_ hb_) | (refine bx 6 #[.slice none 0 0, .int .i64 0, .int .i64 0] 32 ?_; intro g8 hg_ w3 hx_ hb_; go_must (have Qw3 := aS (QW.box (o := .cells #[.slice none 0 0, .int .i64 0, .int .i64 0] 32 (0, 0)) Qw1.out hx_ hg_ hb_)); clear hg_ hx_ hb_; obtain ⟨g40, g41, g42⟩ := gcells (Qw3.out.bx (g4, gB (.slice A N c) G) (by simp)).1) | (go_at_call 18; go_must (refine (rHas_any (HR.out.below Qw3.out.hb) _).mono ?_); rintro e w4 ⟨rfl, hb_⟩; rw [HH.out]; have Qw4 := aS (Qw3.out.below hb_); clear hb_; obtain ⟨g40, g41, g42⟩ := gcells (Qw4.out.bx (g4, gB (.slice A N c) G) (by simp)).1) | (go_at_call 19; go_must (refine (rCols_any (HR.out.below Qw4.out.hb) HK.out).mono ?_); rintro e w5 ⟨rfl, hb_⟩; have Qw5 := aS (Qw4.out.below hb_); clear hb_; obtain ⟨g40, g41, g42⟩ := gcells (Qw5.out.bx (g4, gB (.slice A N c) G) (by simp)).1) | ((with_reducible refine gate_store (t := 32) (p := 6) rfl ?_); go_must (refine step_whole (.tmp 6) (.tmp 24) rfl rfl rfl rfl rfl (Qw5.out.bx (g8, gZ) (by simp)).1 rfl (by kernel_rfl) (by simp [Value.oneCell']; done) ?_); intro w6 hx_ hg_; have Qw6 := aS (And.intro (QW.store (l1 := []) (l2 := [(g4, gB (.slice A N c) G)]) (o' := gB (.slice A N c) G) Qw5.out hx_ hg_) hg_); clear hx_ hg_))
   refine bodyPost_ret (results_ct rfl _ _ g8 32 _ (0, 0) _ rfl (Qw6.out.1.bx (g8, gB (.slice A N c) G) (by simp)).1 Tryz.underlying32 rfl rfl) (by rfl) ?_
   exact ⟨_, rfl, RD.fin (W5 := w5) ((HR.out.below Qw5.out.hb).mono (fun k hk => .inl hk)) Qw6.out.2 (Qw5.out.bx (g8, gZ) (by simp)).2 (blk_lt (Qw5.out.bx (g8, gZ) (by simp)).1), Qw6.out.1.hb⟩
 ·have HH := aS (Bool.eq_false_iff.2 hr)
  have hres : gLay G r l = (G, false) := by unfold gLay; rw [if_neg (fun h => hr h.1)]
  rw [hres]
  have HRO := aS (RD.slice hR)
  clear hR hk hr hres
  go_enter Tryz.func36, Tryz.ntmps36
  go_wp2_with (first | (refine bx 3 #[.slice A N c, .int .i64 G.row, .int .i64 G.col] 32 ?_; intro g4 hg_ w1 hx_ hb_; go_must (have Qw1 := aS (QW.box (o := .cells #[.slice A N c, .int .i64 G.row, .int .i64 G.col] 32 (0, 0)) (QW.new w) hx_ hg_ hb_)); clear hg_ hx_ hb_) | (refine bx 6 #[.slice none 0 0, .int .i64 0, .int .i64 0] 32 ?_; intro g8 hg_ w3 hx_ hb_; go_must (have Qw3 := aS (QW.box (o := .cells #[.slice none 0 0, .int .i64 0, .int .i64 0] 32 (0, 0)) Qw1.out hx_ hg_ hb_)); clear hg_ hx_ hb_; obtain ⟨g40, g41, g42⟩ := gcells (Qw3.out.bx (g4, gB (.slice A N c) G) (by simp)).1) | (go_at_call 18; go_must (refine (rHas_any (HR.out.below Qw3.out.hb) _).mono ?_); rintro e w4 ⟨rfl, hb_⟩; rw [HH.out]; have Qw4 := aS (Qw3.out.below hb_); clear hb_; obtain ⟨g40, g41, g42⟩ := gcells (Qw4.out.bx (g4, gB (.slice A N c) G) (by simp)).1) | ((with_reducible refine gate_store (t := 32) (p := 6) rfl ?_); go_must (refine step_whole (.tmp 6) (.tmp 24) rfl rfl rfl rfl rfl (Qw4.out.bx (g8, gZ) (by simp)).1 rfl (by kernel_rfl) (by simp [Value.oneCell']; done) ?_); intro w5 hx_ hg_; have Qw5 := aS (And.intro (QW.store (l1 := []) (l2 := [(g4, gB (.slice A N c) G)]) (o' := gB (.slice A N c) G) Qw4.out hx_ hg_) hg_); clear hx_ hg_))
  refine bodyPost_ret (results_ct rfl _ _ g8 32 _ (0, 0) _ rfl (Qw5.out.1.bx (g8, gB (.slice A N c) G) (by simp)).1 Tryz.underlying32 rfl rfl) (by rfl) ?_
  exact ⟨_, rfl, RD.fin (W5 := w4) ((HR.out.below Qw4.out.hb).mono (fun k hk => .inl hk)) Qw5.out.2 (Qw4.out.bx (g8, gZ) (by simp)).2 (blk_lt (Qw4.out.bx (g8, gZ) (by simp)).1), Qw5.out.1.hb⟩
end Go.Proofs.YtblcmcdifgclcaaGreat.Grd
