/- GridPlays: what its proof leads to. No condition. -/
import Derived.Test.YtblcmcdifgclcaaGreatG6qGridPlays
import Derived.Test.YtblcmcdifgclcaaGreatG23qGridPlays
import Derived.Test.YtblcmcdifgclcaaGreatG24qGridPlays
import Derived.Test.YtblcmcdifgclcaaGreatG26qGridPlays
import Derived.Test.YtblcmcdifgclcaaGreatG27qGridPlays
import Derived.Test.YtblcmcdifgclcaaGreatG28qGridPlays
import Derived.Test.YtblcmcdifgclcaaGreatG32qGridPlays
import Derived.Test.YtblcmcdifgclcaaGreatG35qGridPlays
import Derived.Test.YtblcmcdifgclcaaGreatG36qGridPlays
import Derived.Test.YtblcmcdifgclcaaGreatG37qGridPlays
import Derived.Test.YtblcmcdifgclcaaGreatG39qGridPlays
import Derived.Test.YtblcmcdifgclcaaGreatG40qGridPlays
import Derived.Test.YtblcmcdifgclcaaGreatG41qGridPlays
namespace Go.Proofs.YtblcmcdifgclcaaGreat.Grd
open Go.RowKit Go.Proofs.YtblcmcdifgclcaaGreat Go.Proofs.YtblcmcdifgclcaaGreat.PGridPlays Go.Proofs.YtblcmcdifgclcaaGreatW.PrintWords Go.Proofs.YtblcmcdifgclcaaGreatW.PrintLast Go.Proofs.YtblcmcdifgclcaaGreatW.PrintMore
set_option linter.unusedVariables false
set_option linter.unusedSimpArgs false
set_option maxRecDepth 100000
set_option maxHeartbeats 4000000
attribute [local go_sem] isSome_setCell max2_int min2_int max_two min_two
theorem do_1 {O okr : Nat → Prop} {w : World} {g : Nat} {G : GV} (h : GS O w g G) {A : Option Addr} {N c : Nat} (hR : RD kRL w okr (.slice A N c) (toL G.L)) (hn : ∀ k, okr k → ¬ O k) (a : AV) (ha : AW a) {Al : Option Addr} {Nl cl : Nat} (hk : a.k = 1) :
 Calls Tryz.prog 9 #[.pointer (some ⟨g, 0, none⟩), gV (.slice A N c) G, actV a Al Nl cl] w (DPost O okr w (gMark G a.r a.c a.m).1) := by
 obtain ⟨⟨G1, b1⟩, hG1⟩ : ∃ p, gMark G a.r a.c a.m = p := ⟨_, rfl⟩
 have HG1 := aS hG1
 rw [hG1]
 clear hG1
 have HS := aS h
 have HR := aS hR.bound
 have HN := aS hn
 have HW := aS ha
 have HK := aS h.ok
 have hT0 : (a.k == 0) = false := by rw [hk]; rfl
 have hT1 : (a.k == 1) = true := by rw [hk]; rfl
 clear h hR hn ha hk
 have hwm : wrap64 a.m = a.m := w64 (by have := HW.out.m; omega) (by have := HW.out.m; omega)
 go_enter Tryz.func9, Tryz.ntmps9
 go_wp2_with (first | (refine bx 4 #[.slice A N c, .int .i64 G.row, .int .i64 G.col] 32 ?_; intro g4 hg_ w1 hx_ hb_; go_must (have Q1 := aS (QO.box (o := gB (.slice A N c) G) (QO.new HS.out) hx_ hg_ hb_)); clear hg_ hx_ hb_) | (refine bx 5 #[.int .i64 a.k, .int .i64 a.r, .int .i64 a.c, .int .i64 a.t, .int .i32 a.x.f0, .int .i32 a.x.f1.f0, .int .i32 a.x.f1.f1, .int .u8 a.x.f2, .int .u8 a.x.f3.f0, .int .u8 a.x.f3.f1, .int .u8 a.x.f3.f2, .int .i32 a.m, .int .u8 a.p0, .int .u8 a.p1, .int .u8 a.p2, .slice Al Nl cl] 43 ?_; intro g5 hg_ w2 hx_ hb_; go_must (have Q2 := aS (QO.box (o := actB a Al Nl cl) Q1.out hx_ hg_ hb_)); clear hg_ hx_ hb_) | (refine bx 7 #[.slice none 0 0, .int .i64 0, .int .i64 0] 32 ?_; intro g7 hg_ w3 hx_ hb_; go_must (have Q3 := aS (QO.box (o := gZ) Q2.out hx_ hg_ hb_)); clear hg_ hx_ hb_; obtain ⟨a0, a1, a2, a3, a4, a5, a6, a7, a8, a9, a10, a11, a12, a13, a14, a15⟩ := acells (Q3.out.bx (g5, actB a Al Nl cl) (by simp)).1) | (refine bx 9 #[.int .u8 0, .int .u8 0, .int .u8 0] 50 ?_; intro g9 hg_ w4 hx_ hb_; go_must (have Q4 := aS (QO.box (o := penR4 0 0 0) Q3.out hx_ hg_ hb_)); clear hg_ hx_ hb_) | ((with_reducible refine gate_store (t := 50) (p := 9) rfl ?_); go_must (refine step_whole (.tmp 9) (.tmp 21) rfl rfl rfl rfl rfl (Q4.out.bx (g9, penR4 0 0 0) (by simp)).1 rfl (by kernel_rfl) (by simp [Value.oneCell']; done) ?_); intro w5 hx_ hg_; go_must (have Q5 := aS (And.intro (QO.store (l1 := []) (l2 := [(g7, gZ), (g5, actB a Al Nl cl), (g4, gB (.slice A N c) G)]) (o' := penR4 a.p0 a.p1 a.p2) Q4.out hx_ hg_) hg_)); clear hx_ hg_; obtain ⟨a0, a1, a2, a3, a4, a5, a6, a7, a8, a9, a10, a11, a12, a13, a14, a15⟩ := acells (Q5.out.1.bx (g5, actB a Al Nl cl) (by simp)).1; obtain ⟨y0, y1, y2⟩ := gcells (Q5.out.1.bx (g4, gB (.slice A N c) G) (by simp)).1; obtain ⟨p0, p1, p2⟩ := pcells (Q5.out.1.bx (g9, penR4 a.p0 a.p1 a.p2) (by simp)).1) | (go_at_call 31; go_must (refine (rgMark_any HK.out (HR.out.wr Q5.out.1.wr (fun k hk => HN.out k hk.1)) a.r a.c a.m HW.out.c).mono ?_); rintro e w6 ⟨v6, rfl, hd6, hb6⟩; rw [HG1.out] at hd6 ⊢; obtain ⟨A6, M6, d6, rfl⟩ := RD.slice hd6; have Q6 := aS (Q5.out.1.below hb6); have D6 := aS hd6.bound; clear hd6 hb6; have HX := aS (show ∀ k, ((okr k ∧ k < w.heap.size) ∨ w5.heap.size ≤ k) ∧ k < w6.heap.size → ¬ O k from fun k hk ho => hk.1.elim (fun h => HN.out k h.1 ho) (fun h => by have := HS.out.ob k ho; have := Q5.out.1.wr.size; omega)); have H7 := aS (show w.heap.size ≤ g7 ∧ g7 < w5.heap.size from ⟨(Q5.out.1.bx (g7, gZ) (by simp)).2.1, blk_lt (Q5.out.1.bx (g7, gZ) (by simp)).1⟩)) | (refine bx 12 #[.slice none 0 0, .int .i64 0, .int .i64 0] 32 ?_; intro g12 hg_ w7 hx_ hb_; go_must (have Q7 := aS (QO.box (o := gZ) Q6.out hx_ hg_ hb_)); have E7 := aS (And.intro hg_ hb_); clear hg_ hx_ hb_) | ((with_reducible refine gate_store (t := 32) (p := 12) rfl ?_); go_must (refine step_whole (.tmp 12) (.tmp 62) rfl rfl rfl rfl rfl (Q7.out.bx (g12, gZ) (by simp)).1 rfl (by kernel_rfl) (by simp [Value.oneCell']; done) ?_); intro w8 hx_ hg_; go_must (have Q8 := aS (And.intro (QO.store (l1 := []) (l2 := [(g9, penR4 a.p0 a.p1 a.p2), (g7, gZ), (g5, actB a Al Nl cl), (g4, gB (.slice A N c) G)]) (o' := gB (.slice A6 M6 d6) G1) Q7.out hx_ hg_) hg_)); clear hx_ hg_; have D8 := aS (show RD kRL w8 (fun k => ((okr k ∧ k < w.heap.size) ∨ w5.heap.size ≤ k) ∧ k < w6.heap.size) (.slice A6 M6 d6) (toL G1.L) from (D6.out.below E7.out.2).wrg Q8.out.2 (fun k hk => by have := hk.2; have := E7.out.1; omega)); have S8 := aS (show w6.heap.size ≤ w8.heap.size from Nat.le_trans E7.out.2.size Q8.out.2.size); obtain ⟨z0, z1, z2⟩ := gcells (Q8.out.1.bx (g12, gB (.slice A6 M6 d6) G1) (by simp)).1; obtain ⟨a0, a1, a2, a3, a4, a5, a6, a7, a8, a9, a10, a11, a12, a13, a14, a15⟩ := acells (Q8.out.1.bx (g5, actB a Al Nl cl) (by simp)).1))
 refine start_ (n := 15) (S := fun w' => w'.cell? ⟨g12, 0, none⟩ = some (.slice A6 M6 d6) ∧ w'.cell? ⟨g12, 1, none⟩ = some (.int .i64 G1.row) ∧ w'.cell? ⟨g12, 2, none⟩ = some (.int .i64 G1.col) ∧ w'.cell? ⟨g5, 1, none⟩ = some (.int .i64 a.r) ∧ w'.cell? ⟨g5, 2, none⟩ = some (.int .i64 a.c) ∧ w'.cell? ⟨g5, 11, none⟩ = some (.int .i32 a.m)) (ds := [13]) (tb 15 0) (by kernel_rfl) rfl rfl ⟨z0, z1, z2, a1, a2, a11⟩ (fun hHeld => ?_)
 refine tP 0 (some 64) (tb 15 1) ?_
 refine tP 2 (some 66) (tb 15 5) ?_
 refine tP 3 (some 67) (tb 15 13) ?_
 refine tP 5 (some 69) (tb 15 45) ?_
 refine tP 7 (some 71) (tb 15 173) ?_
 refine tP 10 (some 74) (tb 15 1197) ?_
 refine tK 1 (some 65) (tb 15 1199) ?_
 refine tK 4 (some 68) (tb 15 1215) ?_
 refine tK 6 (some 70) (tb 15 1279) ?_
 refine tK 8 (some 72) (tb 15 1535) ?_
 refine sO 9 (some 73) (tb 15 2047) (fun K hK => ?_)
 refine gO Tryz.func32 #[.pointer (some ⟨g, 0, none⟩), .int .i64 a.r, .int .i64 a.c, .int .i32 a.m] ?_
 with_reducible refine (Mark_any (Q8.out.1.below bE).gr a.r a.c a.m HW.out.m).mono ?_
 rintro e w9 ⟨rfl, hd⟩
 refine ⟨_, rfl, ?_⟩
 rw [HG1.out] at hd ⊢
 obtain ⟨O9, hs9, q9, hr9⟩ := Q8.out.1.did' bE S8.out hd
 have Q9 := aS (And.intro q9 (And.intro (hr9 _ _ _ D8.out HX.out) hs9))
 clear hd hs9 q9 hr9
 obtain ⟨z0, z1, z2⟩ := gcells (Q9.out.1.bx (g12, gB (.slice A6 M6 d6) G1) (by simp)).1
 obtain ⟨a0, a1, a2, a3, a4, a5, a6, a7, a8, a9, a10, a11, a12, a13, a14, a15⟩ := acells (Q9.out.1.bx (g5, actB a Al Nl cl) (by simp)).1
 refine hK.out _ _ ⟨z0, z1, z2, a1, a2, a11⟩ (fun hHeld => ?_)
 clear hK K
 refine nm ?_
 refine tP 11 (some 75) (tb 15 4095) ?_
 refine tP 12 (some 6) (tb 15 8191) ?_
 refine last_ (i := 13) (N := none) (tb 15 16383) rfl rfl (by kernel_rfl) (by decide) (fun K hK => ?_)
 refine whole_step (cs' := #[.slice A6 M6 d6, .int .i64 G1.row, .int .i64 G1.col]) (by rfl) (.tmp 7) (.tmp 65) rfl rfl (by rfl) (by rfl) ((Q9.out.1.below bE).bx (g7, gZ) (by simp)).1 rfl (by kernel_rfl) (by simp [Value.oneCell']; done) ?_
 intro w10 hx_ hg_
 have Q10 := aS (And.intro (QO.store (l1 := [(g12, gB (.slice A6 M6 d6) G1), (g9, penR4 a.p0 a.p1 a.p2)]) (l2 := [(g5, actB a Al Nl cl), (g4, gB (.slice A N c) G)]) (o' := gB (.slice A6 M6 d6) G1) (Q9.out.1.below bE) hx_ hg_) hg_)
 have D10 := aS (RD.fin3 (Q9.out.2.1.below bE) hg_ H7.out.1 H7.out.2 Q5.out.1.wr.size HS.out.ob Q9.out.2.2 HN.out)
 clear hx_ hg_
 refine hK.out _ _ ?_
 clear hK K
 refine tP 14 (some 8) (tb 15 32767) ?_
 refine done_ (by kernel_rfl) ?_
 all_goals go_wp2
 all_goals refine bodyPost_ret (results_tct rfl _ _ g7 32 _ (0, 0) _ rfl (Q10.out.1.bx (g7, gB (.slice A6 M6 d6) G1) (by simp)).1 Tryz.underlying32 rfl rfl) (by rfl) ?_
 all_goals exact ⟨g, _, O9, rfl, Q10.out.1.gr.below bE, Q10.out.1.sub, Q10.out.1.wr.then_ bE, D10.out.below bE⟩
end Go.Proofs.YtblcmcdifgclcaaGreat.Grd
namespace Go.Proofs.YtblcmcdifgclcaaGreat.Grd
open Go.RowKit Go.Proofs.YtblcmcdifgclcaaGreat Go.Proofs.YtblcmcdifgclcaaGreat.PGridPlays Go.Proofs.YtblcmcdifgclcaaGreatW.PrintWords Go.Proofs.YtblcmcdifgclcaaGreatW.PrintLast Go.Proofs.YtblcmcdifgclcaaGreatW.PrintMore
set_option linter.unusedVariables false
set_option linter.unusedSimpArgs false
set_option maxRecDepth 100000
set_option maxHeartbeats 4000000
attribute [local go_sem] isSome_setCell max2_int min2_int max_two min_two
theorem do_7 {O okr : Nat → Prop} {w : World} {g : Nat} {G : GV} (h : GS O w g G) {A : Option Addr} {N c : Nat} (hR : RD kRL w okr (.slice A N c) (toL G.L)) (hn : ∀ k, okr k → ¬ O k) (a : AV) (ha : AW a) {Al : Option Addr} {Nl cl : Nat} (hk : a.k = 7) :
 Calls Tryz.prog 9 #[.pointer (some ⟨g, 0, none⟩), gV (.slice A N c) G, actV a Al Nl cl] w (DPost O okr w G) := by
 have HS := aS h
 have HR := aS hR.bound
 have HN := aS hn
 have HW := aS ha
 have HK := aS h.ok
 have hT0 : (a.k == 0) = false := by rw [hk]; rfl
 have hT1 : (a.k == 1) = false := by rw [hk]; rfl
 have hT2 : (a.k == 2) = false := by rw [hk]; rfl
 have hT3 : (a.k == 3) = false := by rw [hk]; rfl
 have hT4 : (a.k == 4) = false := by rw [hk]; rfl
 have hT5 : (a.k == 5) = false := by rw [hk]; rfl
 have hT6 : (a.k == 6) = false := by rw [hk]; rfl
 have hT7 : (a.k == 7) = true := by rw [hk]; rfl
 clear h hR hn ha hk
 go_enter Tryz.func9, Tryz.ntmps9
 go_wp2_with (first | (refine bx 4 #[.slice A N c, .int .i64 G.row, .int .i64 G.col] 32 ?_; intro g4 hg_ w1 hx_ hb_; go_must (have Q1 := aS (QO.box (o := gB (.slice A N c) G) (QO.new HS.out) hx_ hg_ hb_)); clear hg_ hx_ hb_) | (refine bx 5 #[.int .i64 a.k, .int .i64 a.r, .int .i64 a.c, .int .i64 a.t, .int .i32 a.x.f0, .int .i32 a.x.f1.f0, .int .i32 a.x.f1.f1, .int .u8 a.x.f2, .int .u8 a.x.f3.f0, .int .u8 a.x.f3.f1, .int .u8 a.x.f3.f2, .int .i32 a.m, .int .u8 a.p0, .int .u8 a.p1, .int .u8 a.p2, .slice Al Nl cl] 43 ?_; intro g5 hg_ w2 hx_ hb_; go_must (have Q2 := aS (QO.box (o := actB a Al Nl cl) Q1.out hx_ hg_ hb_)); clear hg_ hx_ hb_) | (refine bx 7 #[.slice none 0 0, .int .i64 0, .int .i64 0] 32 ?_; intro g7 hg_ w3 hx_ hb_; go_must (have Q3 := aS (QO.box (o := gZ) Q2.out hx_ hg_ hb_)); clear hg_ hx_ hb_; obtain ⟨a0, a1, a2, a3, a4, a5, a6, a7, a8, a9, a10, a11, a12, a13, a14, a15⟩ := acells (Q3.out.bx (g5, actB a Al Nl cl) (by simp)).1) | (refine bx 9 #[.int .u8 0, .int .u8 0, .int .u8 0] 50 ?_; intro g9 hg_ w4 hx_ hb_; go_must (have Q4 := aS (QO.box (o := penR4 0 0 0) Q3.out hx_ hg_ hb_)); clear hg_ hx_ hb_) | ((with_reducible refine gate_store (t := 50) (p := 9) rfl ?_); go_must (refine step_whole (.tmp 9) (.tmp 21) rfl rfl rfl rfl rfl (Q4.out.bx (g9, penR4 0 0 0) (by simp)).1 rfl (by kernel_rfl) (by simp [Value.oneCell']; done) ?_); intro w5 hx_ hg_; go_must (have Q5 := aS (And.intro (QO.store (l1 := []) (l2 := [(g7, gZ), (g5, actB a Al Nl cl), (g4, gB (.slice A N c) G)]) (o' := penR4 a.p0 a.p1 a.p2) Q4.out hx_ hg_) hg_)); clear hx_ hg_; obtain ⟨a0, a1, a2, a3, a4, a5, a6, a7, a8, a9, a10, a11, a12, a13, a14, a15⟩ := acells (Q5.out.1.bx (g5, actB a Al Nl cl) (by simp)).1; obtain ⟨y0, y1, y2⟩ := gcells (Q5.out.1.bx (g4, gB (.slice A N c) G) (by simp)).1; obtain ⟨p0, p1, p2⟩ := pcells (Q5.out.1.bx (g9, penR4 a.p0 a.p1 a.p2) (by simp)).1) | (go_at_call 43; go_must (refine (Copy_any Q5.out.1.gr).mono ?_); rintro e w6 ⟨g1, rfl, hF⟩; have Q6 := aS (Q5.out.1.swap hF); have HG6 := aS (And.intro (Q5.out.1.gr.below hF.2) Q5.out.1.wr.size); clear hF; obtain ⟨y0, y1, y2⟩ := gcells (Q6.out.bx (g4, gB (.slice A N c) G) (by simp)).1))
 refine start_ (n := 12) (S := fun w' => w'.cell? ⟨g4, 0, none⟩ = some (.slice A N c) ∧ w'.cell? ⟨g4, 1, none⟩ = some (.int .i64 G.row) ∧ w'.cell? ⟨g4, 2, none⟩ = some (.int .i64 G.col)) (ds := [10]) (tb 12 0) (by kernel_rfl) rfl rfl ⟨y0, y1, y2⟩ (fun hHeld => ?_)
 refine tP 0 (some 198) (tb 12 1) ?_
 refine tP 2 (some 200) (tb 12 5) ?_
 refine tP 3 (some 201) (tb 12 13) ?_
 refine tP 4 (some 202) (tb 12 29) ?_
 refine tP 5 (some 203) (tb 12 61) ?_
 refine tP 6 (some 204) (tb 12 125) ?_
 refine tK 1 (some 199) (tb 12 127) ?_
 refine sO 7 (some 205) (tb 12 255) (fun K hK => ?_)
 refine gO Tryz.func44 #[.pointer (some ⟨g1, 0, none⟩), .pointer (some ⟨g, 0, none⟩)] ?_
 with_reducible refine (Same_any (Q6.out.below bE).gr (HG6.out.1.below bE)).mono ?_
 rintro e w7 ⟨rfl, hb⟩
 refine ⟨_, rfl, ?_⟩
 rw [gSame_self]
 have Q7 := aS (Q6.out.below (show Below w6.heap.size w6 w7 from below_step bE hb))
 clear hb
 obtain ⟨y0, y1, y2⟩ := gcells (Q7.out.bx (g4, gB (.slice A N c) G) (by simp)).1
 refine hK.out _ _ ⟨y0, y1, y2⟩ (fun hHeld => ?_)
 clear hK K
 refine nm ?_
 refine tP 8 (some 206) (tb 12 511) ?_
 refine tP 9 (some 6) (tb 12 1023) ?_
 refine last_ (i := 10) (N := none) (tb 12 2047) rfl rfl (by kernel_rfl) (by decide) (fun K hK => ?_)
 refine whole_step (cs' := #[.slice A N c, .int .i64 G.row, .int .i64 G.col]) (by rfl) (.tmp 7) (.tmp 199) rfl rfl (by rfl) (by rfl) ((Q7.out.below bE).bx (g7, gZ) (by simp)).1 rfl (by kernel_rfl) (by simp [Value.oneCell']; done) ?_
 intro w8 hx_ hg_
 have Q8 := aS (And.intro (QO.store (l1 := [(g9, penR4 a.p0 a.p1 a.p2)]) (l2 := [(g5, actB a Al Nl cl), (g4, gB (.slice A N c) G)]) (o' := gB (.slice A N c) G) (Q7.out.below bE) hx_ hg_) hg_)
 clear hx_ hg_
 refine hK.out _ _ ?_
 clear hK K
 refine tP 11 (some 8) (tb 12 4095) ?_
 refine done_ (by kernel_rfl) ?_
 all_goals go_wp2
 all_goals refine bodyPost_ret (results_tct rfl _ _ g7 32 _ (0, 0) _ rfl (Q8.out.1.bx (g7, gB (.slice A N c) G) (by simp)).1 Tryz.underlying32 rfl rfl) (by rfl) ?_
 all_goals exact ⟨g1, _, _, rfl, Q8.out.1.gr.below bE, Q8.out.1.sub, Q8.out.1.wr.then_ bE, ((HR.out.wr Q8.out.1.wr (fun k hk => HN.out k hk.1)).below bE).mono (fun k hk => ⟨.inl hk.1, fun h => by have := h.1; have := hk.2; have := HG6.out.2; omega⟩)⟩
end Go.Proofs.YtblcmcdifgclcaaGreat.Grd
