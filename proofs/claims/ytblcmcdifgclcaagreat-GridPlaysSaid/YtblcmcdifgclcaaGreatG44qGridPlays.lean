/- GridPlays: what its proof leads to. No condition. -/
import Derived.Test.YtblcmcdifgclcaaGreatG6qGridPlays
import Derived.Test.YtblcmcdifgclcaaGreatG23qGridPlays
import Derived.Test.YtblcmcdifgclcaaGreatG24qGridPlays
import Derived.Test.YtblcmcdifgclcaaGreatG27qGridPlays
import Derived.Test.YtblcmcdifgclcaaGreatG29qGridPlays
import Derived.Test.YtblcmcdifgclcaaGreatG35qGridPlays
import Derived.Test.YtblcmcdifgclcaaGreatG36qGridPlays
import Derived.Test.YtblcmcdifgclcaaGreatG37qGridPlays
import Derived.Test.YtblcmcdifgclcaaGreatG39qGridPlays
import Derived.Test.YtblcmcdifgclcaaGreatG40qGridPlays
import Derived.Test.YtblcmcdifgclcaaGreatG41qGridPlays
namespace Go.Proofs.YtblcmcdifgclcaaGreat.Grd
open Go.RowKit Go.Proofs.YtblcmcdifgclcaaGreat Go.Proofs.YtblcmcdifgclcaaGreat.PGridPlays Go.Proofs.YtblcmcdifgclcaaGreatW.PrintWords Go.Proofs.YtblcmcdifgclcaaGreatW.PrintLast Go.Proofs.YtblcmcdifgclcaaGreatW.PrintMore
set_option linter.unusedVariables false
set_option linter.unusedSimpArgs false
set_option maxRecDepth 100000
set_option maxHeartbeats 4000000
attribute [local go_sem] isSome_setCell max2_int min2_int max_two min_two
def smallV (n : Int) : Int := if n > 30 then (if n ≤ 512 then 30 else n) else n
theorem small_ok (n : Int) : prolepsislaw07_small.f n = some (smallV n) := by unfold prolepsislaw07_small.f smallV; split <;> (try split) <;> rfl
theorem rsize_ok (a b : Int) : prolepsisref07_Size.f a b = some (gSize a b) := by
 unfold prolepsisref07_Size.f gSize
 by_cases h1 : a ≥ 1 <;> by_cases h2 : a ≤ 512 <;> by_cases h3 : b ≥ 1 <;> by_cases h4 : b ≤ 512 <;> simp [h1, h2, h3, h4] <;> omega
theorem do_6 {O okr : Nat → Prop} {w : World} {g : Nat} {G : GV} (h : GS O w g G) {A : Option Addr} {N c : Nat} (hR : RD kRL w okr (.slice A N c) (toL G.L)) (hn : ∀ k, okr k → ¬ O k) (a : AV) (ha : AW a) {Al : Option Addr} {Nl cl : Nat} (hk : a.k = 6) :
 Calls Tryz.prog 9 #[.pointer (some ⟨g, 0, none⟩), gV (.slice A N c) G, actV a Al Nl cl] w (DPost O okr w (if gSize (smallV a.r) (smallV a.c) = true then gFit G (smallV a.r) (smallV a.c) else G)) := by
 obtain ⟨sr, hsr⟩ : ∃ s, smallV a.r = s := ⟨_, rfl⟩
 obtain ⟨sc, hsc⟩ : ∃ s, smallV a.c = s := ⟨_, rfl⟩
 have HSR := aS (show prolepsislaw07_small.f a.r = some sr by rw [small_ok, hsr])
 have HSC := aS (show prolepsislaw07_small.f a.c = some sc by rw [small_ok, hsc])
 rw [hsr, hsc]
 clear hsr hsc
 by_cases hz : gSize sr sc = true
 ·have HZ := aS hz
  rw [if_pos hz]
  have HS := aS h
  have HR := aS hR.bound
  have HN := aS hn
  have HW := aS ha
  have HK := aS h.ok
  have hT0 : (a.k == 0) = false := by rw [hk]; rfl
  have hT1 : (a.k == 1) = false := by rw [hk]; rfl
  have hT2 : (a.k == 2) = false := by rw [hk]; rfl
  have hT3 : (a.k == 3) = false := by rw [hk]; rfl
  have hT4 : (a.k == 4) = false := by rw [hk]; rfl
  have hT5 : (a.k == 5) = false := by rw [hk]; rfl
  have hT6 : (a.k == 6) = true := by rw [hk]; rfl
  clear hz h hR hn ha hk
  go_enter Tryz.func9, Tryz.ntmps9
  go_wp2_with (first | (refine bx 4 #[.slice A N c, .int .i64 G.row, .int .i64 G.col] 32 ?_; intro g4 hg_ w1 hx_ hb_; go_must (have Q1 := aS (QO.box (o := gB (.slice A N c) G) (QO.new HS.out) hx_ hg_ hb_)); clear hg_ hx_ hb_) | (refine bx 5 #[.int .i64 a.k, .int .i64 a.r, .int .i64 a.c, .int .i64 a.t, .int .i32 a.x.f0, .int .i32 a.x.f1.f0, .int .i32 a.x.f1.f1, .int .u8 a.x.f2, .int .u8 a.x.f3.f0, .int .u8 a.x.f3.f1, .int .u8 a.x.f3.f2, .int .i32 a.m, .int .u8 a.p0, .int .u8 a.p1, .int .u8 a.p2, .slice Al Nl cl] 43 ?_; intro g5 hg_ w2 hx_ hb_; go_must (have Q2 := aS (QO.box (o := actB a Al Nl cl) Q1.out hx_ hg_ hb_)); clear hg_ hx_ hb_) | (refine bx 7 #[.slice none 0 0, .int .i64 0, .int .i64 0] 32 ?_; intro g7 hg_ w3 hx_ hb_; go_must (have Q3 := aS (QO.box (o := gZ) Q2.out hx_ hg_ hb_)); clear hg_ hx_ hb_; obtain ⟨a0, a1, a2, a3, a4, a5, a6, a7, a8, a9, a10, a11, a12, a13, a14, a15⟩ := acells (Q3.out.bx (g5, actB a Al Nl cl) (by simp)).1) | (refine bx 9 #[.int .u8 0, .int .u8 0, .int .u8 0] 50 ?_; intro g9 hg_ w4 hx_ hb_; go_must (have Q4 := aS (QO.box (o := penR4 0 0 0) Q3.out hx_ hg_ hb_)); clear hg_ hx_ hb_) | ((with_reducible refine gate_store (t := 50) (p := 9) rfl ?_); go_must (refine step_whole (.tmp 9) (.tmp 21) rfl rfl rfl rfl rfl (Q4.out.bx (g9, penR4 0 0 0) (by simp)).1 rfl (by kernel_rfl) (by simp [Value.oneCell']; done) ?_); intro w5 hx_ hg_; go_must (have Q5 := aS (And.intro (QO.store (l1 := []) (l2 := [(g7, gZ), (g5, actB a Al Nl cl), (g4, gB (.slice A N c) G)]) (o' := penR4 a.p0 a.p1 a.p2) Q4.out hx_ hg_) hg_)); clear hx_ hg_; obtain ⟨a0, a1, a2, a3, a4, a5, a6, a7, a8, a9, a10, a11, a12, a13, a14, a15⟩ := acells (Q5.out.1.bx (g5, actB a Al Nl cl) (by simp)).1; obtain ⟨y0, y1, y2⟩ := gcells (Q5.out.1.bx (g4, gB (.slice A N c) G) (by simp)).1; obtain ⟨p0, p1, p2⟩ := pcells (Q5.out.1.bx (g9, penR4 a.p0 a.p1 a.p2) (by simp)).1))
  have Q5' := aS Q5.out.1
  refine start_ (n := 13) (S := fun w' => w'.cell? ⟨g5, 1, none⟩ = some (.int .i64 a.r) ∧ w'.cell? ⟨g5, 2, none⟩ = some (.int .i64 a.c)) (ds := [7]) (tb 13 0) (by kernel_rfl) rfl rfl ⟨a1, a2⟩ (fun hHeld => ?_)
  refine tP 0 (some 153) (tb 13 1) ?_
  refine tP 1 (some 154) (tb 13 3) ?_
  refine tP 4 (some 157) (tb 13 19) ?_
  refine tK 2 (some 155) (tb 13 23) ?_
  refine tK 5 (some 158) (tb 13 55) ?_
  refine sO 3 (some 156) (tb 13 63) (fun K hK => ?_)
  refine gO Tryz.func4 #[.int .i64 a.r] ?_
  with_reducible refine (prolepsislaw07_small.calls a.r sr _ HSR.out).mono ?_
  rintro e w6 ⟨rfl, hd⟩
  refine ⟨_, rfl, ?_⟩
  have Q6 := aS ((Q5'.out.below bE).below hd.below)
  clear hd
  obtain ⟨a0, a1, a2, a3, a4, a5, a6, a7, a8, a9, a10, a11, a12, a13, a14, a15⟩ := acells (Q6.out.bx (g5, actB a Al Nl cl) (by simp)).1
  refine hK.out _ _ ⟨a1, a2⟩ (fun hHeld => ?_)
  clear hK K
  refine nm ?_
  refine sO 6 (some 159) (tb 13 127) (fun K hK => ?_)
  refine gO Tryz.func4 #[.int .i64 a.c] ?_
  with_reducible refine (prolepsislaw07_small.calls a.c sc _ HSC.out).mono ?_
  rintro e w7 ⟨rfl, hd⟩
  refine ⟨_, rfl, ?_⟩
  have Q7 := aS ((Q6.out.below bE).below hd.below)
  clear hd
  obtain ⟨a0, a1, a2, a3, a4, a5, a6, a7, a8, a9, a10, a11, a12, a13, a14, a15⟩ := acells (Q7.out.bx (g5, actB a Al Nl cl) (by simp)).1
  refine hK.out _ _ ⟨a1, a2⟩ (fun hHeld => ?_)
  clear hK K
  refine nm ?_
  refine last_ (i := 7) (N := some 160) (tb 13 255) rfl rfl (by kernel_rfl) (by decide) (fun K hK => ?_)
  refine gO Tryz.func25 #[.pointer (some ⟨g, 0, none⟩), .int .i64 sr, .int .i64 sc] ?_
  with_reducible refine (Fit_any (Q7.out.below bE).gr sr sc HZ.out).mono ?_
  rintro e w8 ⟨g1, rfl, hF⟩
  refine ⟨_, rfl, ?_⟩
  have Q8 := aS ((Q7.out.below bE).swap hF)
  clear hF
  refine hK.out _ _ ?_
  clear hK K
  refine nm ?_
  refine tP 8 (some 152) (tb 13 511) ?_
  refine tP 9 (some 161) (tb 13 1023) ?_
  refine tP 10 (some 162) (tb 13 2047) ?_
  refine tP 11 (some 17) (tb 13 4095) ?_
  refine tP 12 (some 18) (tb 13 8191) ?_
  refine done_ (by kernel_rfl) ?_
  obtain ⟨a0, a1, a2, a3, a4, a5, a6, a7, a8, a9, a10, a11, a12, a13, a14, a15⟩ := acells (Q8.out.bx (g5, actB a Al Nl cl) (by simp)).1
  go_wp2
  refine start_ (n := 8) (S := fun w' => w'.cell? ⟨g5, 1, none⟩ = some (.int .i64 a.r) ∧ w'.cell? ⟨g5, 2, none⟩ = some (.int .i64 a.c)) (ds := [6]) (tb 8 0) (by kernel_rfl) rfl rfl ⟨a1, a2⟩ (fun hHeld => ?_)
  refine tP 0 (some 163) (tb 8 1) ?_
  refine tP 3 (some 166) (tb 8 9) ?_
  refine tK 1 (some 164) (tb 8 11) ?_
  refine tK 4 (some 167) (tb 8 27) ?_
  refine sO 2 (some 165) (tb 8 31) (fun K hK => ?_)
  refine gO Tryz.func4 #[.int .i64 a.r] ?_
  with_reducible refine (prolepsislaw07_small.calls a.r sr _ HSR.out).mono ?_
  rintro e w9 ⟨rfl, hd⟩
  refine ⟨_, rfl, ?_⟩
  have Q9 := aS ((Q8.out.below bE).below hd.below)
  clear hd
  obtain ⟨a0, a1, a2, a3, a4, a5, a6, a7, a8, a9, a10, a11, a12, a13, a14, a15⟩ := acells (Q9.out.bx (g5, actB a Al Nl cl) (by simp)).1
  refine hK.out _ _ ⟨a1, a2⟩ (fun hHeld => ?_)
  clear hK K
  refine nm ?_
  refine sO 5 (some 168) (tb 8 63) (fun K hK => ?_)
  refine gO Tryz.func4 #[.int .i64 a.c] ?_
  with_reducible refine (prolepsislaw07_small.calls a.c sc _ HSC.out).mono ?_
  rintro e w10 ⟨rfl, hd⟩
  refine ⟨_, rfl, ?_⟩
  have Q10 := aS ((Q9.out.below bE).below hd.below)
  clear hd
  obtain ⟨a0, a1, a2, a3, a4, a5, a6, a7, a8, a9, a10, a11, a12, a13, a14, a15⟩ := acells (Q10.out.bx (g5, actB a Al Nl cl) (by simp)).1
  refine hK.out _ _ ⟨a1, a2⟩ (fun hHeld => ?_)
  clear hK K
  refine nm ?_
  refine last_ (i := 6) (N := some 169) (tb 8 127) rfl rfl (by kernel_rfl) (by decide) (fun K hK => ?_)
  refine gO Tryz.func6 #[.int .i64 sr, .int .i64 sc] ?_
  with_reducible refine (prolepsisref07_Size.calls sr sc _ _ (rsize_ok sr sc)).mono ?_
  rintro e w11 ⟨rfl, hd⟩
  refine ⟨_, rfl, ?_⟩
  rw [HZ.out]
  have Q11 := aS ((Q10.out.below bE).below hd.below)
  clear hd
  refine hK.out _ _ ?_
  clear hK K
  refine nm ?_
  refine tP 7 (some 170) (tb 8 255) ?_
  refine done_ (by kernel_rfl) ?_
  obtain ⟨a0, a1, a2, a3, a4, a5, a6, a7, a8, a9, a10, a11, a12, a13, a14, a15⟩ := acells (Q11.out.bx (g5, actB a Al Nl cl) (by simp)).1
  obtain ⟨y0, y1, y2⟩ := gcells (Q11.out.bx (g4, gB (.slice A N c) G) (by simp)).1
  go_wp2
  refine start_ (n := 18) (S := fun w' => w'.cell? ⟨g5, 1, none⟩ = some (.int .i64 a.r) ∧ w'.cell? ⟨g5, 2, none⟩ = some (.int .i64 a.c) ∧ w'.cell? ⟨g4, 0, none⟩ = some (.slice A N c) ∧ w'.cell? ⟨g4, 1, none⟩ = some (.int .i64 G.row) ∧ w'.cell? ⟨g4, 2, none⟩ = some (.int .i64 G.col)) (ds := [8, 16]) (tb 18 0) (by kernel_rfl) rfl rfl ⟨a1, a2, y0, y1, y2⟩ (fun hHeld => ?_)
  refine tP 0 (some 179) (tb 18 1) ?_
  refine tP 2 (some 181) (tb 18 5) ?_
  refine tP 5 (some 184) (tb 18 37) ?_
  refine tP 9 (some 188) (tb 18 549) ?_
  refine tP 10 (some 189) (tb 18 1573) ?_
  refine tK 1 (some 180) (tb 18 1575) ?_
  refine tK 3 (some 182) (tb 18 1583) ?_
  refine tK 6 (some 185) (tb 18 1647) ?_
  refine sO 4 (some 183) (tb 18 1663) (fun K hK => ?_)
  refine gO Tryz.func4 #[.int .i64 a.r] ?_
  with_reducible refine (prolepsislaw07_small.calls a.r sr _ HSR.out).mono ?_
  rintro e w12 ⟨rfl, hd⟩
  refine ⟨_, rfl, ?_⟩
  have Q12 := aS ((Q11.out.below bE).below hd.below)
  clear hd
  obtain ⟨a0, a1, a2, a3, a4, a5, a6, a7, a8, a9, a10, a11, a12, a13, a14, a15⟩ := acells (Q12.out.bx (g5, actB a Al Nl cl) (by simp)).1
  obtain ⟨y0, y1, y2⟩ := gcells (Q12.out.bx (g4, gB (.slice A N c) G) (by simp)).1
  refine hK.out _ _ ⟨a1, a2, y0, y1, y2⟩ (fun hHeld => ?_)
  clear hK K
  refine nm ?_
  refine sO 7 (some 186) (tb 18 1791) (fun K hK => ?_)
  refine gO Tryz.func4 #[.int .i64 a.c] ?_
  with_reducible refine (prolepsislaw07_small.calls a.c sc _ HSC.out).mono ?_
  rintro e w13 ⟨rfl, hd⟩
  refine ⟨_, rfl, ?_⟩
  have Q13 := aS ((Q12.out.below bE).below hd.below)
  clear hd
  obtain ⟨a0, a1, a2, a3, a4, a5, a6, a7, a8, a9, a10, a11, a12, a13, a14, a15⟩ := acells (Q13.out.bx (g5, actB a Al Nl cl) (by simp)).1
  obtain ⟨y0, y1, y2⟩ := gcells (Q13.out.bx (g4, gB (.slice A N c) G) (by simp)).1
  refine hK.out _ _ ⟨a1, a2, y0, y1, y2⟩ (fun hHeld => ?_)
  clear hK K
  refine nm ?_
  refine last_ (i := 8) (N := some 187) (tb 18 2047) rfl rfl (by kernel_rfl) (by decide) (fun K hK => ?_)
  refine gO Tryz.func42 #[gV (.slice A N c) G, .int .i64 sr, .int .i64 sc] ?_
  with_reducible refine (rgFit_any HK.out (HR.out.wr (Q13.out.below bE).wr (fun k hk => HN.out k hk.1)) sr sc HZ.out).mono ?_
  rintro e w14 ⟨v14, rfl, hd, hb⟩
  refine ⟨_, rfl, ?_⟩
  obtain ⟨A6, M6, d6, rfl⟩ := RD.slice hd
  have Q14 := aS ((Q13.out.below bE).below hb)
  have D14 := aS (show RD kRL w14 (fun k => (okr k ∧ k < w.heap.size) ∨ w13.heap.size ≤ k) (.slice A6 M6 d6) (toL (gFit G sr sc).L) from hd.mono (fun k hk => hk.imp id (fun e => Nat.le_trans (Below.size (show Below w13.heap.size w13 _ from bE)) e)))
  clear hd hb
  refine hK.out _ _ ?_
  clear hK K
  refine nm ?_
  refine tP 11 (some 190) (tb 18 4095) ?_
  refine tP 12 (some 191) (tb 18 8191) ?_
  refine tP 13 (some 192) (tb 18 16383) ?_
  refine tP 14 (some 193) (tb 18 32767) ?_
  refine tP 15 (some 6) (tb 18 65535) ?_
  refine last_ (i := 16) (N := none) (tb 18 131071) rfl rfl (by kernel_rfl) (by decide) (fun K hK => ?_)
  refine whole_step (cs' := #[.slice A6 M6 d6, .int .i64 (gFit G sr sc).row, .int .i64 (gFit G sr sc).col]) (by rfl) (.tmp 7) (.tmp 187) rfl rfl (by rfl) (by rfl) ((Q14.out.below bE).bx (g7, gZ) (by simp)).1 rfl (by kernel_rfl) (by simp [Value.oneCell']; done) ?_
  intro w15 hx_ hg_
  have Q15 := aS (And.intro (QO.store (l1 := [(g9, penR4 a.p0 a.p1 a.p2)]) (l2 := [(g5, actB a Al Nl cl), (g4, gB (.slice A N c) G)]) (o' := gB (.slice A6 M6 d6) (gFit G sr sc)) (Q14.out.below bE) hx_ hg_) hg_)
  have D15 := aS (RD.fin2 (D14.out.below bE) hg_ (Q13.out.bx (g7, gZ) (by simp)).2.1 (blk_lt (Q13.out.bx (g7, gZ) (by simp)).1) Q13.out.wr.size Q13.out.gr.ob Q13.out.sub HN.out)
  clear hx_ hg_
  refine hK.out _ _ ?_
  clear hK K
  refine tP 17 (some 8) (tb 18 262143) ?_
  refine done_ (by kernel_rfl) ?_
  all_goals go_wp2
  all_goals refine bodyPost_ret (results_tct rfl _ _ g7 32 _ (0, 0) _ rfl (Q15.out.1.bx (g7, gB (.slice A6 M6 d6) (gFit G sr sc)) (by simp)).1 Tryz.underlying32 rfl rfl) (by rfl) ?_
  all_goals exact ⟨g1, _, _, rfl, Q15.out.1.gr.below bE, Q15.out.1.sub, Q15.out.1.wr.then_ bE, D15.out.below bE⟩
 ·have HZ := aS (Bool.eq_false_iff.2 hz)
  rw [if_neg hz]
  have HS := aS h
  have HR := aS hR.bound
  have HN := aS hn
  have HW := aS ha
  have HK := aS h.ok
  have hT0 : (a.k == 0) = false := by rw [hk]; rfl
  have hT1 : (a.k == 1) = false := by rw [hk]; rfl
  have hT2 : (a.k == 2) = false := by rw [hk]; rfl
  have hT3 : (a.k == 3) = false := by rw [hk]; rfl
  have hT4 : (a.k == 4) = false := by rw [hk]; rfl
  have hT5 : (a.k == 5) = false := by rw [hk]; rfl
  have hT6 : (a.k == 6) = true := by rw [hk]; rfl
  clear hz h hR hn ha hk
  go_enter Tryz.func9, Tryz.ntmps9
  go_wp2_with (first | (refine bx 4 #[.slice A N c, .int .i64 G.row, .int .i64 G.col] 32 ?_; intro g4 hg_ w1 hx_ hb_; go_must (have Q1 := aS (QO.box (o := gB (.slice A N c) G) (QO.new HS.out) hx_ hg_ hb_)); clear hg_ hx_ hb_) | (refine bx 5 #[.int .i64 a.k, .int .i64 a.r, .int .i64 a.c, .int .i64 a.t, .int .i32 a.x.f0, .int .i32 a.x.f1.f0, .int .i32 a.x.f1.f1, .int .u8 a.x.f2, .int .u8 a.x.f3.f0, .int .u8 a.x.f3.f1, .int .u8 a.x.f3.f2, .int .i32 a.m, .int .u8 a.p0, .int .u8 a.p1, .int .u8 a.p2, .slice Al Nl cl] 43 ?_; intro g5 hg_ w2 hx_ hb_; go_must (have Q2 := aS (QO.box (o := actB a Al Nl cl) Q1.out hx_ hg_ hb_)); clear hg_ hx_ hb_) | (refine bx 7 #[.slice none 0 0, .int .i64 0, .int .i64 0] 32 ?_; intro g7 hg_ w3 hx_ hb_; go_must (have Q3 := aS (QO.box (o := gZ) Q2.out hx_ hg_ hb_)); clear hg_ hx_ hb_; obtain ⟨a0, a1, a2, a3, a4, a5, a6, a7, a8, a9, a10, a11, a12, a13, a14, a15⟩ := acells (Q3.out.bx (g5, actB a Al Nl cl) (by simp)).1) | (refine bx 9 #[.int .u8 0, .int .u8 0, .int .u8 0] 50 ?_; intro g9 hg_ w4 hx_ hb_; go_must (have Q4 := aS (QO.box (o := penR4 0 0 0) Q3.out hx_ hg_ hb_)); clear hg_ hx_ hb_) | ((with_reducible refine gate_store (t := 50) (p := 9) rfl ?_); go_must (refine step_whole (.tmp 9) (.tmp 21) rfl rfl rfl rfl rfl (Q4.out.bx (g9, penR4 0 0 0) (by simp)).1 rfl (by kernel_rfl) (by simp [Value.oneCell']; done) ?_); intro w5 hx_ hg_; go_must (have Q5 := aS (And.intro (QO.store (l1 := []) (l2 := [(g7, gZ), (g5, actB a Al Nl cl), (g4, gB (.slice A N c) G)]) (o' := penR4 a.p0 a.p1 a.p2) Q4.out hx_ hg_) hg_)); clear hx_ hg_; obtain ⟨a0, a1, a2, a3, a4, a5, a6, a7, a8, a9, a10, a11, a12, a13, a14, a15⟩ := acells (Q5.out.1.bx (g5, actB a Al Nl cl) (by simp)).1; obtain ⟨y0, y1, y2⟩ := gcells (Q5.out.1.bx (g4, gB (.slice A N c) G) (by simp)).1; obtain ⟨p0, p1, p2⟩ := pcells (Q5.out.1.bx (g9, penR4 a.p0 a.p1 a.p2) (by simp)).1))
  have Q5' := aS Q5.out.1
  refine start_ (n := 13) (S := fun w' => w'.cell? ⟨g5, 1, none⟩ = some (.int .i64 a.r) ∧ w'.cell? ⟨g5, 2, none⟩ = some (.int .i64 a.c)) (ds := [7]) (tb 13 0) (by kernel_rfl) rfl rfl ⟨a1, a2⟩ (fun hHeld => ?_)
  refine tP 0 (some 153) (tb 13 1) ?_
  refine tP 1 (some 154) (tb 13 3) ?_
  refine tP 4 (some 157) (tb 13 19) ?_
  refine tK 2 (some 155) (tb 13 23) ?_
  refine tK 5 (some 158) (tb 13 55) ?_
  refine sO 3 (some 156) (tb 13 63) (fun K hK => ?_)
  refine gO Tryz.func4 #[.int .i64 a.r] ?_
  with_reducible refine (prolepsislaw07_small.calls a.r sr _ HSR.out).mono ?_
  rintro e w6 ⟨rfl, hd⟩
  refine ⟨_, rfl, ?_⟩
  have Q6 := aS ((Q5'.out.below bE).below hd.below)
  clear hd
  obtain ⟨a0, a1, a2, a3, a4, a5, a6, a7, a8, a9, a10, a11, a12, a13, a14, a15⟩ := acells (Q6.out.bx (g5, actB a Al Nl cl) (by simp)).1
  refine hK.out _ _ ⟨a1, a2⟩ (fun hHeld => ?_)
  clear hK K
  refine nm ?_
  refine sO 6 (some 159) (tb 13 127) (fun K hK => ?_)
  refine gO Tryz.func4 #[.int .i64 a.c] ?_
  with_reducible refine (prolepsislaw07_small.calls a.c sc _ HSC.out).mono ?_
  rintro e w7 ⟨rfl, hd⟩
  refine ⟨_, rfl, ?_⟩
  have Q7 := aS ((Q6.out.below bE).below hd.below)
  clear hd
  obtain ⟨a0, a1, a2, a3, a4, a5, a6, a7, a8, a9, a10, a11, a12, a13, a14, a15⟩ := acells (Q7.out.bx (g5, actB a Al Nl cl) (by simp)).1
  refine hK.out _ _ ⟨a1, a2⟩ (fun hHeld => ?_)
  clear hK K
  refine nm ?_
  refine last_ (i := 7) (N := some 160) (tb 13 255) rfl rfl (by kernel_rfl) (by decide) (fun K hK => ?_)
  refine gO Tryz.func25 #[.pointer (some ⟨g, 0, none⟩), .int .i64 sr, .int .i64 sc] ?_
  with_reducible refine (Fit_no (Q7.out.below bE).gr sr sc HZ.out).mono ?_
  rintro e w8 ⟨rfl, hb⟩
  refine ⟨_, rfl, ?_⟩
  have Q8 := aS ((Q7.out.below bE).below hb)
  clear hb
  refine hK.out _ _ ?_
  clear hK K
  refine nm ?_
  refine tP 8 (some 152) (tb 13 511) ?_
  refine tP 9 (some 161) (tb 13 1023) ?_
  refine tP 10 (some 162) (tb 13 2047) ?_
  refine tP 11 (some 17) (tb 13 4095) ?_
  refine tP 12 (some 18) (tb 13 8191) ?_
  refine done_ (by kernel_rfl) ?_
  obtain ⟨a0, a1, a2, a3, a4, a5, a6, a7, a8, a9, a10, a11, a12, a13, a14, a15⟩ := acells (Q8.out.bx (g5, actB a Al Nl cl) (by simp)).1
  go_wp2
  refine start_ (n := 8) (S := fun w' => w'.cell? ⟨g5, 1, none⟩ = some (.int .i64 a.r) ∧ w'.cell? ⟨g5, 2, none⟩ = some (.int .i64 a.c)) (ds := [6]) (tb 8 0) (by kernel_rfl) rfl rfl ⟨a1, a2⟩ (fun hHeld => ?_)
  refine tP 0 (some 163) (tb 8 1) ?_
  refine tP 3 (some 166) (tb 8 9) ?_
  refine tK 1 (some 164) (tb 8 11) ?_
  refine tK 4 (some 167) (tb 8 27) ?_
  refine sO 2 (some 165) (tb 8 31) (fun K hK => ?_)
  refine gO Tryz.func4 #[.int .i64 a.r] ?_
  with_reducible refine (prolepsislaw07_small.calls a.r sr _ HSR.out).mono ?_
  rintro e w9 ⟨rfl, hd⟩
  refine ⟨_, rfl, ?_⟩
  have Q9 := aS ((Q8.out.below bE).below hd.below)
  clear hd
  obtain ⟨a0, a1, a2, a3, a4, a5, a6, a7, a8, a9, a10, a11, a12, a13, a14, a15⟩ := acells (Q9.out.bx (g5, actB a Al Nl cl) (by simp)).1
  refine hK.out _ _ ⟨a1, a2⟩ (fun hHeld => ?_)
  clear hK K
  refine nm ?_
  refine sO 5 (some 168) (tb 8 63) (fun K hK => ?_)
  refine gO Tryz.func4 #[.int .i64 a.c] ?_
  with_reducible refine (prolepsislaw07_small.calls a.c sc _ HSC.out).mono ?_
  rintro e w10 ⟨rfl, hd⟩
  refine ⟨_, rfl, ?_⟩
  have Q10 := aS ((Q9.out.below bE).below hd.below)
  clear hd
  obtain ⟨a0, a1, a2, a3, a4, a5, a6, a7, a8, a9, a10, a11, a12, a13, a14, a15⟩ := acells (Q10.out.bx (g5, actB a Al Nl cl) (by simp)).1
  refine hK.out _ _ ⟨a1, a2⟩ (fun hHeld => ?_)
  clear hK K
  refine nm ?_
  refine last_ (i := 6) (N := some 169) (tb 8 127) rfl rfl (by kernel_rfl) (by decide) (fun K hK => ?_)
  refine gO Tryz.func6 #[.int .i64 sr, .int .i64 sc] ?_
  with_reducible refine (prolepsisref07_Size.calls sr sc _ _ (rsize_ok sr sc)).mono ?_
  rintro e w11 ⟨rfl, hd⟩
  refine ⟨_, rfl, ?_⟩
  rw [HZ.out]
  have Q11 := aS ((Q10.out.below bE).below hd.below)
  clear hd
  refine hK.out _ _ ?_
  clear hK K
  refine nm ?_
  refine tP 7 (some 170) (tb 8 255) ?_
  refine done_ (by kernel_rfl) ?_
  obtain ⟨a0, a1, a2, a3, a4, a5, a6, a7, a8, a9, a10, a11, a12, a13, a14, a15⟩ := acells (Q11.out.bx (g5, actB a Al Nl cl) (by simp)).1
  obtain ⟨y0, y1, y2⟩ := gcells (Q11.out.bx (g4, gB (.slice A N c) G) (by simp)).1
  go_wp2
  refine start_ (n := 11) (S := fun w' => w'.cell? ⟨g4, 0, none⟩ = some (.slice A N c) ∧ w'.cell? ⟨g4, 1, none⟩ = some (.int .i64 G.row) ∧ w'.cell? ⟨g4, 2, none⟩ = some (.int .i64 G.col)) (ds := [9]) (tb 11 0) (by kernel_rfl) rfl rfl ⟨y0, y1, y2⟩ (fun hHeld => ?_)
  refine tP 0 (some 171) (tb 11 1) ?_
  refine tP 2 (some 173) (tb 11 5) ?_
  refine tP 3 (some 174) (tb 11 13) ?_
  refine tP 4 (some 175) (tb 11 29) ?_
  refine tP 5 (some 176) (tb 11 61) ?_
  refine tP 6 (some 177) (tb 11 125) ?_
  refine tP 7 (some 178) (tb 11 253) ?_
  refine tP 8 (some 6) (tb 11 509) ?_
  refine tK 1 (some 172) (tb 11 511) ?_
  refine last_ (i := 9) (N := none) (tb 11 1023) rfl rfl (by kernel_rfl) (by decide) (fun K hK => ?_)
  refine whole_step (cs' := #[.slice A N c, .int .i64 G.row, .int .i64 G.col]) (by rfl) (.tmp 7) (.tmp 172) rfl rfl (by rfl) (by rfl) ((Q11.out.below bE).bx (g7, gZ) (by simp)).1 rfl (by kernel_rfl) (by simp [Value.oneCell']; done) ?_
  intro w15 hx_ hg_
  have Q15 := aS (And.intro (QO.store (l1 := [(g9, penR4 a.p0 a.p1 a.p2)]) (l2 := [(g5, actB a Al Nl cl), (g4, gB (.slice A N c) G)]) (o' := gB (.slice A N c) G) (Q11.out.below bE) hx_ hg_) hg_)
  clear hx_ hg_
  refine hK.out _ _ ?_
  clear hK K
  refine tP 10 (some 8) (tb 11 2047) ?_
  refine done_ (by kernel_rfl) ?_
  all_goals go_wp2
  all_goals refine bodyPost_ret (results_tct rfl _ _ g7 32 _ (0, 0) _ rfl (Q15.out.1.bx (g7, gB (.slice A N c) G) (by simp)).1 Tryz.underlying32 rfl rfl) (by rfl) ?_
  all_goals exact ⟨g, _, O, rfl, Q15.out.1.gr.below bE, fun k hk => .inl hk, Q15.out.1.wr.then_ bE, ((HR.out.wr Q15.out.1.wr (fun k hk => HN.out k hk.1)).below bE).mono (fun k hk => ⟨.inl hk.1, HN.out k hk.1⟩)⟩
end Go.Proofs.YtblcmcdifgclcaaGreat.Grd
