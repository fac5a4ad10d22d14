/- GridPlays: what its proof leads to. No condition. -/
import Derived.Test.YtblcmcdifgclcaaGreatG6qGridPlays
import Derived.Test.YtblcmcdifgclcaaGreatG23qGridPlays
import Derived.Test.YtblcmcdifgclcaaGreatG24qGridPlays
import Derived.Test.YtblcmcdifgclcaaGreatG26qGridPlays
import Derived.Test.YtblcmcdifgclcaaGreatG27qGridPlays
import Derived.Test.YtblcmcdifgclcaaGreatG35qGridPlays
import Derived.Test.YtblcmcdifgclcaaGreatG36qGridPlays
import Derived.Test.YtblcmcdifgclcaaGreatG37qGridPlays
import Derived.Test.YtblcmcdifgclcaaGreatG38qGridPlays
import Derived.Test.YtblcmcdifgclcaaGreatG39qGridPlays
import Derived.Test.YtblcmcdifgclcaaGreatG40qGridPlays
import Derived.Test.YtblcmcdifgclcaaGreatG41qGridPlays
namespace Go.Proofs.YtblcmcdifgclcaaGreat.Grd
open Go.RowKit Go.Proofs.YtblcmcdifgclcaaGreat Go.Proofs.YtblcmcdifgclcaaGreat.PGridPlays Go.Proofs.YtblcmcdifgclcaaGreatW.PrintWords Go.Proofs.YtblcmcdifgclcaaGreatW.PrintLast Go.Proofs.YtblcmcdifgclcaaGreatW.PrintMore
set_option linter.unusedVariables false
set_option linter.unusedSimpArgs false
set_option maxRecDepth 100000
set_option maxHeartbeats 4000000
attribute [local go_sem] isSome_setCell max2_int min2_int max_two min_two
theorem do_2 {O okr : Nat → Prop} {w : World} {g : Nat} {G : GV} (h : GS O w g G) {A : Option Addr} {N c : Nat} (hR : RD kRL w okr (.slice A N c) (toL G.L)) (hn : ∀ k, okr k → ¬ O k) (a : AV) (ha : AW a) {Al : Option Addr} {Nl cl : Nat} (hk : a.k = 2) :
 Calls Tryz.prog 9 #[.pointer (some ⟨g, 0, none⟩), gV (.slice A N c) G, actV a Al Nl cl] w (DPost O okr w (gErase G a.r a.c a.t a.p0 a.p1 a.p2)) := by
 have HS := aS h
 have HR := aS hR.bound
 have HN := aS hn
 have HW := aS ha
 have HK := aS h.ok
 have hT0 : (a.k == 0) = false := by rw [hk]; rfl
 have hT1 : (a.k == 1) = false := by rw [hk]; rfl
 have hT2 : (a.k == 2) = true := by rw [hk]; rfl
 clear h hR hn ha hk
 go_enter Tryz.func9, Tryz.ntmps9
 go_wp2_with (first | (refine bx 4 #[.slice A N c, .int .i64 G.row, .int .i64 G.col] 32 ?_; intro g4 hg_ w1 hx_ hb_; go_must (have Q1 := aS (QO.box (o := gB (.slice A N c) G) (QO.new HS.out) hx_ hg_ hb_)); clear hg_ hx_ hb_) | (refine bx 5 #[.int .i64 a.k, .int .i64 a.r, .int .i64 a.c, .int .i64 a.t, .int .i32 a.x.f0, .int .i32 a.x.f1.f0, .int .i32 a.x.f1.f1, .int .u8 a.x.f2, .int .u8 a.x.f3.f0, .int .u8 a.x.f3.f1, .int .u8 a.x.f3.f2, .int .i32 a.m, .int .u8 a.p0, .int .u8 a.p1, .int .u8 a.p2, .slice Al Nl cl] 43 ?_; intro g5 hg_ w2 hx_ hb_; go_must (have Q2 := aS (QO.box (o := actB a Al Nl cl) Q1.out hx_ hg_ hb_)); clear hg_ hx_ hb_) | (refine bx 7 #[.slice none 0 0, .int .i64 0, .int .i64 0] 32 ?_; intro g7 hg_ w3 hx_ hb_; go_must (have Q3 := aS (QO.box (o := gZ) Q2.out hx_ hg_ hb_)); clear hg_ hx_ hb_; obtain ⟨a0, a1, a2, a3, a4, a5, a6, a7, a8, a9, a10, a11, a12, a13, a14, a15⟩ := acells (Q3.out.bx (g5, actB a Al Nl cl) (by simp)).1) | (refine bx 9 #[.int .u8 0, .int .u8 0, .int .u8 0] 50 ?_; intro g9 hg_ w4 hx_ hb_; go_must (have Q4 := aS (QO.box (o := penR4 0 0 0) Q3.out hx_ hg_ hb_)); clear hg_ hx_ hb_) | ((with_reducible refine gate_store (t := 50) (p := 9) rfl ?_); go_must (refine step_whole (.tmp 9) (.tmp 21) rfl rfl rfl rfl rfl (Q4.out.bx (g9, penR4 0 0 0) (by simp)).1 rfl (by kernel_rfl) (by simp [Value.oneCell']; done) ?_); intro w5 hx_ hg_; go_must (have Q5 := aS (And.intro (QO.store (l1 := []) (l2 := [(g7, gZ), (g5, actB a Al Nl cl), (g4, gB (.slice A N c) G)]) (o' := penR4 a.p0 a.p1 a.p2) Q4.out hx_ hg_) hg_)); clear hx_ hg_; obtain ⟨a0, a1, a2, a3, a4, a5, a6, a7, a8, a9, a10, a11, a12, a13, a14, a15⟩ := acells (Q5.out.1.bx (g5, actB a Al Nl cl) (by simp)).1; obtain ⟨y0, y1, y2⟩ := gcells (Q5.out.1.bx (g4, gB (.slice A N c) G) (by simp)).1; obtain ⟨p0, p1, p2⟩ := pcells (Q5.out.1.bx (g9, penR4 a.p0 a.p1 a.p2) (by simp)).1) | (go_at_call 33; go_must (refine (Erase_any Q5.out.1.gr a.r a.c a.t a.p0 a.p1 a.p2).mono ?_); rintro e w6 ⟨rfl, hd⟩; obtain ⟨O6, -, q6⟩ := Q5.out.1.did hd; have Q6 := aS q6; clear hd q6; obtain ⟨a0, a1, a2, a3, a4, a5, a6, a7, a8, a9, a10, a11, a12, a13, a14, a15⟩ := acells (Q6.out.bx (g5, actB a Al Nl cl) (by simp)).1; obtain ⟨y0, y1, y2⟩ := gcells (Q6.out.bx (g4, gB (.slice A N c) G) (by simp)).1; obtain ⟨p0, p1, p2⟩ := pcells (Q6.out.bx (g9, penR4 a.p0 a.p1 a.p2) (by simp)).1; have H7 := aS (show w.heap.size ≤ g7 ∧ g7 < w6.heap.size from ⟨(Q6.out.bx (g7, gZ) (by simp)).2.1, blk_lt (Q6.out.bx (g7, gZ) (by simp)).1⟩)) | (go_at_call 34; go_must (refine (rgErase_any HK.out (HR.out.wr Q6.out.wr (fun k hk => HN.out k hk.1)) a.r a.c a.t a.p0 a.p1 a.p2).mono ?_); rintro e w7 ⟨v7, rfl, hd7, hb7⟩; obtain ⟨A7, M7, d7, rfl⟩ := RD.slice hd7; have Q7 := aS (Q6.out.below hb7); have D7 := aS hd7; clear hd7 hb7) | ((with_reducible refine gate_store (t := 32) (p := 7) rfl ?_); go_must (refine step_whole (.tmp 7) (.tmp 97) rfl rfl rfl rfl rfl (Q7.out.bx (g7, gZ) (by simp)).1 rfl (by kernel_rfl) (by simp [Value.oneCell']; done) ?_); intro w8 hx_ hg_; go_must (have Q8 := aS (And.intro (QO.store (l1 := [(g9, penR4 a.p0 a.p1 a.p2)]) (l2 := [(g5, actB a Al Nl cl), (g4, gB (.slice A N c) G)]) (o' := gB (.slice A7 M7 d7) (gErase G a.r a.c a.t a.p0 a.p1 a.p2)) Q7.out hx_ hg_) hg_)); clear hx_ hg_))
 all_goals refine bodyPost_ret (results_tct rfl _ _ g7 32 _ (0, 0) _ rfl (Q8.out.1.bx (g7, gB (.slice A7 M7 d7) (gErase G a.r a.c a.t a.p0 a.p1 a.p2)) (by simp)).1 Tryz.underlying32 rfl rfl) (by rfl) ?_
 all_goals exact ⟨g, _, O6, rfl, Q8.out.1.gr, Q8.out.1.sub, Q8.out.1.wr, RD.fin2 D7.out Q8.out.2 H7.out.1 H7.out.2 Q6.out.wr.size Q6.out.gr.ob Q6.out.sub HN.out⟩
theorem do_4 {O okr : Nat → Prop} {w : World} {g : Nat} {G : GV} (h : GS O w g G) {A : Option Addr} {N c : Nat} (hR : RD kRL w okr (.slice A N c) (toL G.L)) (hn : ∀ k, okr k → ¬ O k) (a : AV) (ha : AW a) {Al : Option Addr} {Nl cl : Nat} (hk : a.k = 4) :
 Calls Tryz.prog 9 #[.pointer (some ⟨g, 0, none⟩), gV (.slice A N c) G, actV a Al Nl cl] w (DPost O okr w (gMove G a.r a.c)) := by
 have HS := aS h
 have HR := aS hR.bound
 have HN := aS hn
 have HW := aS ha
 have HK := aS h.ok
 have hT0 : (a.k == 0) = false := by rw [hk]; rfl
 have hT1 : (a.k == 1) = false := by rw [hk]; rfl
 have hT2 : (a.k == 2) = false := by rw [hk]; rfl
 have hT3 : (a.k == 3) = false := by rw [hk]; rfl
 have hT4 : (a.k == 4) = true := by rw [hk]; rfl
 clear h hR hn ha hk
 go_enter Tryz.func9, Tryz.ntmps9
 go_wp2_with (first | (refine bx 4 #[.slice A N c, .int .i64 G.row, .int .i64 G.col] 32 ?_; intro g4 hg_ w1 hx_ hb_; go_must (have Q1 := aS (QO.box (o := gB (.slice A N c) G) (QO.new HS.out) hx_ hg_ hb_)); clear hg_ hx_ hb_) | (refine bx 5 #[.int .i64 a.k, .int .i64 a.r, .int .i64 a.c, .int .i64 a.t, .int .i32 a.x.f0, .int .i32 a.x.f1.f0, .int .i32 a.x.f1.f1, .int .u8 a.x.f2, .int .u8 a.x.f3.f0, .int .u8 a.x.f3.f1, .int .u8 a.x.f3.f2, .int .i32 a.m, .int .u8 a.p0, .int .u8 a.p1, .int .u8 a.p2, .slice Al Nl cl] 43 ?_; intro g5 hg_ w2 hx_ hb_; go_must (have Q2 := aS (QO.box (o := actB a Al Nl cl) Q1.out hx_ hg_ hb_)); clear hg_ hx_ hb_) | (refine bx 7 #[.slice none 0 0, .int .i64 0, .int .i64 0] 32 ?_; intro g7 hg_ w3 hx_ hb_; go_must (have Q3 := aS (QO.box (o := gZ) Q2.out hx_ hg_ hb_)); clear hg_ hx_ hb_; obtain ⟨a0, a1, a2, a3, a4, a5, a6, a7, a8, a9, a10, a11, a12, a13, a14, a15⟩ := acells (Q3.out.bx (g5, actB a Al Nl cl) (by simp)).1) | (refine bx 9 #[.int .u8 0, .int .u8 0, .int .u8 0] 50 ?_; intro g9 hg_ w4 hx_ hb_; go_must (have Q4 := aS (QO.box (o := penR4 0 0 0) Q3.out hx_ hg_ hb_)); clear hg_ hx_ hb_) | ((with_reducible refine gate_store (t := 50) (p := 9) rfl ?_); go_must (refine step_whole (.tmp 9) (.tmp 21) rfl rfl rfl rfl rfl (Q4.out.bx (g9, penR4 0 0 0) (by simp)).1 rfl (by kernel_rfl) (by simp [Value.oneCell']; done) ?_); intro w5 hx_ hg_; go_must (have Q5 := aS (And.intro (QO.store (l1 := []) (l2 := [(g7, gZ), (g5, actB a Al Nl cl), (g4, gB (.slice A N c) G)]) (o' := penR4 a.p0 a.p1 a.p2) Q4.out hx_ hg_) hg_)); clear hx_ hg_; obtain ⟨a0, a1, a2, a3, a4, a5, a6, a7, a8, a9, a10, a11, a12, a13, a14, a15⟩ := acells (Q5.out.1.bx (g5, actB a Al Nl cl) (by simp)).1; obtain ⟨y0, y1, y2⟩ := gcells (Q5.out.1.bx (g4, gB (.slice A N c) G) (by simp)).1; obtain ⟨p0, p1, p2⟩ := pcells (Q5.out.1.bx (g9, penR4 a.p0 a.p1 a.p2) (by simp)).1) | (go_at_call 39; go_must (refine (Move_any Q5.out.1.gr a.r a.c).mono ?_); rintro e w6 ⟨rfl, hd⟩; obtain ⟨O6, -, q6⟩ := Q5.out.1.did hd; have Q6 := aS q6; clear hd q6; obtain ⟨a0, a1, a2, a3, a4, a5, a6, a7, a8, a9, a10, a11, a12, a13, a14, a15⟩ := acells (Q6.out.bx (g5, actB a Al Nl cl) (by simp)).1; obtain ⟨y0, y1, y2⟩ := gcells (Q6.out.bx (g4, gB (.slice A N c) G) (by simp)).1; obtain ⟨p0, p1, p2⟩ := pcells (Q6.out.bx (g9, penR4 a.p0 a.p1 a.p2) (by simp)).1; have H7 := aS (show w.heap.size ≤ g7 ∧ g7 < w6.heap.size from ⟨(Q6.out.bx (g7, gZ) (by simp)).2.1, blk_lt (Q6.out.bx (g7, gZ) (by simp)).1⟩)) | (go_at_call 40; go_must (refine (rgMove_any HK.out (HR.out.wr Q6.out.wr (fun k hk => HN.out k hk.1)) a.r a.c).mono ?_); rintro e w7 ⟨rfl, hb7⟩; have Q7 := aS (Q6.out.below hb7); have D7 := aS (show RD kRL w7 (fun k => (okr k ∧ k < w.heap.size) ∨ w6.heap.size ≤ k) (.slice A N c) (toL G.L) from (((HR.out.wr Q6.out.wr (fun k hk => HN.out k hk.1))).below hb7).mono (fun k hk => .inl hk)); clear hb7) | ((with_reducible refine gate_store (t := 32) (p := 7) rfl ?_); go_must (refine step_whole (.tmp 7) (.tmp 135) rfl rfl rfl rfl rfl (Q7.out.bx (g7, gZ) (by simp)).1 rfl (by kernel_rfl) (by simp [Value.oneCell']; done) ?_); intro w8 hx_ hg_; go_must (have Q8 := aS (And.intro (QO.store (l1 := [(g9, penR4 a.p0 a.p1 a.p2)]) (l2 := [(g5, actB a Al Nl cl), (g4, gB (.slice A N c) G)]) (o' := gB (.slice A N c) (gMove G a.r a.c)) Q7.out hx_ hg_) hg_)); clear hx_ hg_))
 all_goals refine bodyPost_ret (results_tct rfl _ _ g7 32 _ (0, 0) _ rfl (Q8.out.1.bx (g7, gB (.slice A N c) (gMove G a.r a.c)) (by simp)).1 Tryz.underlying32 rfl rfl) (by rfl) ?_
 all_goals exact ⟨g, _, O6, rfl, Q8.out.1.gr, Q8.out.1.sub, Q8.out.1.wr, RD.fin2 D7.out Q8.out.2 H7.out.1 H7.out.2 Q6.out.wr.size Q6.out.gr.ob Q6.out.sub HN.out⟩
theorem do_5 {O okr : Nat → Prop} {w : World} {g : Nat} {G : GV} (h : GS O w g G) {A : Option Addr} {N c : Nat} (hR : RD kRL w okr (.slice A N c) (toL G.L)) (hn : ∀ k, okr k → ¬ O k) (a : AV) (ha : AW a) {Al : Option Addr} {Nl cl : Nat} (hk : a.k = 5) :
 Calls Tryz.prog 9 #[.pointer (some ⟨g, 0, none⟩), gV (.slice A N c) G, actV a Al Nl cl] w (DPost O okr w (gScroll G a.r a.p0 a.p1 a.p2)) := by
 have HS := aS h
 have HR := aS hR.bound
 have HN := aS hn
 have HW := aS ha
 have HK := aS h.ok
 have hT0 : (a.k == 0) = false := by rw [hk]; rfl
 have hT1 : (a.k == 1) = false := by rw [hk]; rfl
 have hT2 : (a.k == 2) = false := by rw [hk]; rfl
 have hT3 : (a.k == 3) = false := by rw [hk]; rfl
 have hT4 : (a.k == 4) = false := by rw [hk]; rfl
 have hT5 : (a.k == 5) = true := by rw [hk]; rfl
 clear h hR hn ha hk
 go_enter Tryz.func9, Tryz.ntmps9
 go_wp2_with (first | (refine bx 4 #[.slice A N c, .int .i64 G.row, .int .i64 G.col] 32 ?_; intro g4 hg_ w1 hx_ hb_; go_must (have Q1 := aS (QO.box (o := gB (.slice A N c) G) (QO.new HS.out) hx_ hg_ hb_)); clear hg_ hx_ hb_) | (refine bx 5 #[.int .i64 a.k, .int .i64 a.r, .int .i64 a.c, .int .i64 a.t, .int .i32 a.x.f0, .int .i32 a.x.f1.f0, .int .i32 a.x.f1.f1, .int .u8 a.x.f2, .int .u8 a.x.f3.f0, .int .u8 a.x.f3.f1, .int .u8 a.x.f3.f2, .int .i32 a.m, .int .u8 a.p0, .int .u8 a.p1, .int .u8 a.p2, .slice Al Nl cl] 43 ?_; intro g5 hg_ w2 hx_ hb_; go_must (have Q2 := aS (QO.box (o := actB a Al Nl cl) Q1.out hx_ hg_ hb_)); clear hg_ hx_ hb_) | (refine bx 7 #[.slice none 0 0, .int .i64 0, .int .i64 0] 32 ?_; intro g7 hg_ w3 hx_ hb_; go_must (have Q3 := aS (QO.box (o := gZ) Q2.out hx_ hg_ hb_)); clear hg_ hx_ hb_; obtain ⟨a0, a1, a2, a3, a4, a5, a6, a7, a8, a9, a10, a11, a12, a13, a14, a15⟩ := acells (Q3.out.bx (g5, actB a Al Nl cl) (by simp)).1) | (refine bx 9 #[.int .u8 0, .int .u8 0, .int .u8 0] 50 ?_; intro g9 hg_ w4 hx_ hb_; go_must (have Q4 := aS (QO.box (o := penR4 0 0 0) Q3.out hx_ hg_ hb_)); clear hg_ hx_ hb_) | ((with_reducible refine gate_store (t := 50) (p := 9) rfl ?_); go_must (refine step_whole (.tmp 9) (.tmp 21) rfl rfl rfl rfl rfl (Q4.out.bx (g9, penR4 0 0 0) (by simp)).1 rfl (by kernel_rfl) (by simp [Value.oneCell']; done) ?_); intro w5 hx_ hg_; go_must (have Q5 := aS (And.intro (QO.store (l1 := []) (l2 := [(g7, gZ), (g5, actB a Al Nl cl), (g4, gB (.slice A N c) G)]) (o' := penR4 a.p0 a.p1 a.p2) Q4.out hx_ hg_) hg_)); clear hx_ hg_; obtain ⟨a0, a1, a2, a3, a4, a5, a6, a7, a8, a9, a10, a11, a12, a13, a14, a15⟩ := acells (Q5.out.1.bx (g5, actB a Al Nl cl) (by simp)).1; obtain ⟨y0, y1, y2⟩ := gcells (Q5.out.1.bx (g4, gB (.slice A N c) G) (by simp)).1; obtain ⟨p0, p1, p2⟩ := pcells (Q5.out.1.bx (g9, penR4 a.p0 a.p1 a.p2) (by simp)).1) | (go_at_call 24; go_must (refine (Scroll_did Q5.out.1.gr a.r a.p0 a.p1 a.p2 HW.out.r).mono ?_); rintro e w6 ⟨rfl, hd⟩; obtain ⟨O6, -, q6⟩ := Q5.out.1.did hd; have Q6 := aS q6; clear hd q6; obtain ⟨a0, a1, a2, a3, a4, a5, a6, a7, a8, a9, a10, a11, a12, a13, a14, a15⟩ := acells (Q6.out.bx (g5, actB a Al Nl cl) (by simp)).1; obtain ⟨y0, y1, y2⟩ := gcells (Q6.out.bx (g4, gB (.slice A N c) G) (by simp)).1; obtain ⟨p0, p1, p2⟩ := pcells (Q6.out.bx (g9, penR4 a.p0 a.p1 a.p2) (by simp)).1; have H7 := aS (show w.heap.size ≤ g7 ∧ g7 < w6.heap.size from ⟨(Q6.out.bx (g7, gZ) (by simp)).2.1, blk_lt (Q6.out.bx (g7, gZ) (by simp)).1⟩)) | (go_at_call 41; go_must (refine (rgScroll_any HK.out (HR.out.wr Q6.out.wr (fun k hk => HN.out k hk.1)) a.r a.p0 a.p1 a.p2 HW.out.r).mono ?_); rintro e w7 ⟨v7, rfl, hd7, hb7⟩; obtain ⟨A7, M7, d7, rfl⟩ := RD.slice hd7; have Q7 := aS (Q6.out.below hb7); have D7 := aS hd7; clear hd7 hb7) | ((with_reducible refine gate_store (t := 32) (p := 7) rfl ?_); go_must (refine step_whole (.tmp 7) (.tmp 149) rfl rfl rfl rfl rfl (Q7.out.bx (g7, gZ) (by simp)).1 rfl (by kernel_rfl) (by simp [Value.oneCell']; done) ?_); intro w8 hx_ hg_; go_must (have Q8 := aS (And.intro (QO.store (l1 := [(g9, penR4 a.p0 a.p1 a.p2)]) (l2 := [(g5, actB a Al Nl cl), (g4, gB (.slice A N c) G)]) (o' := gB (.slice A7 M7 d7) (gScroll G a.r a.p0 a.p1 a.p2)) Q7.out hx_ hg_) hg_)); clear hx_ hg_))
 all_goals refine bodyPost_ret (results_tct rfl _ _ g7 32 _ (0, 0) _ rfl (Q8.out.1.bx (g7, gB (.slice A7 M7 d7) (gScroll G a.r a.p0 a.p1 a.p2)) (by simp)).1 Tryz.underlying32 rfl rfl) (by rfl) ?_
 all_goals exact ⟨g, _, O6, rfl, Q8.out.1.gr, Q8.out.1.sub, Q8.out.1.wr, RD.fin2 D7.out Q8.out.2 H7.out.1 H7.out.2 Q6.out.wr.size Q6.out.gr.ob Q6.out.sub HN.out⟩
theorem do_x {O okr : Nat → Prop} {w : World} {g : Nat} {G : GV} (h : GS O w g G) {A : Option Addr} {N c : Nat} (hR : RD kRL w okr (.slice A N c) (toL G.L)) (hn : ∀ k, okr k → ¬ O k) (a : AV) (ha : AW a) {Al : Option Addr} {Nl cl : Nat} (hk : a.k ≠ 0 ∧ a.k ≠ 1 ∧ a.k ≠ 2 ∧ a.k ≠ 3 ∧ a.k ≠ 4 ∧ a.k ≠ 5 ∧ a.k ≠ 6 ∧ a.k ≠ 7) :
 Calls Tryz.prog 9 #[.pointer (some ⟨g, 0, none⟩), gV (.slice A N c) G, actV a Al Nl cl] w (DPost O okr w G) := by
 have HS := aS h
 have HR := aS hR.bound
 have HN := aS hn
 have HW := aS ha
 have HK := aS h.ok
 have hT0 : (a.k == 0) = false := beq_eq_false_iff_ne.2 (hk.1)
 have hT1 : (a.k == 1) = false := beq_eq_false_iff_ne.2 (hk.2.1)
 have hT2 : (a.k == 2) = false := beq_eq_false_iff_ne.2 (hk.2.2.1)
 have hT3 : (a.k == 3) = false := beq_eq_false_iff_ne.2 (hk.2.2.2.1)
 have hT4 : (a.k == 4) = false := beq_eq_false_iff_ne.2 (hk.2.2.2.2.1)
 have hT5 : (a.k == 5) = false := beq_eq_false_iff_ne.2 (hk.2.2.2.2.2.1)
 have hT6 : (a.k == 6) = false := beq_eq_false_iff_ne.2 (hk.2.2.2.2.2.2.1)
 have hT7 : (a.k == 7) = false := beq_eq_false_iff_ne.2 (hk.2.2.2.2.2.2.2)
 clear h hR hn ha hk
 go_enter Tryz.func9, Tryz.ntmps9
 go_wp2_with (first | (refine bx 4 #[.slice A N c, .int .i64 G.row, .int .i64 G.col] 32 ?_; intro g4 hg_ w1 hx_ hb_; go_must (have Q1 := aS (QO.box (o := gB (.slice A N c) G) (QO.new HS.out) hx_ hg_ hb_)); clear hg_ hx_ hb_) | (refine bx 5 #[.int .i64 a.k, .int .i64 a.r, .int .i64 a.c, .int .i64 a.t, .int .i32 a.x.f0, .int .i32 a.x.f1.f0, .int .i32 a.x.f1.f1, .int .u8 a.x.f2, .int .u8 a.x.f3.f0, .int .u8 a.x.f3.f1, .int .u8 a.x.f3.f2, .int .i32 a.m, .int .u8 a.p0, .int .u8 a.p1, .int .u8 a.p2, .slice Al Nl cl] 43 ?_; intro g5 hg_ w2 hx_ hb_; go_must (have Q2 := aS (QO.box (o := actB a Al Nl cl) Q1.out hx_ hg_ hb_)); clear hg_ hx_ hb_) | (refine bx 7 #[.slice none 0 0, .int .i64 0, .int .i64 0] 32 ?_; intro g7 hg_ w3 hx_ hb_; go_must (have Q3 := aS (QO.box (o := gZ) Q2.out hx_ hg_ hb_)); clear hg_ hx_ hb_; obtain ⟨a0, a1, a2, a3, a4, a5, a6, a7, a8, a9, a10, a11, a12, a13, a14, a15⟩ := acells (Q3.out.bx (g5, actB a Al Nl cl) (by simp)).1) | (refine bx 9 #[.int .u8 0, .int .u8 0, .int .u8 0] 50 ?_; intro g9 hg_ w4 hx_ hb_; go_must (have Q4 := aS (QO.box (o := penR4 0 0 0) Q3.out hx_ hg_ hb_)); clear hg_ hx_ hb_) | ((with_reducible refine gate_store (t := 50) (p := 9) rfl ?_); go_must (refine step_whole (.tmp 9) (.tmp 21) rfl rfl rfl rfl rfl (Q4.out.bx (g9, penR4 0 0 0) (by simp)).1 rfl (by kernel_rfl) (by simp [Value.oneCell']; done) ?_); intro w5 hx_ hg_; go_must (have Q5 := aS (And.intro (QO.store (l1 := []) (l2 := [(g7, gZ), (g5, actB a Al Nl cl), (g4, gB (.slice A N c) G)]) (o' := penR4 a.p0 a.p1 a.p2) Q4.out hx_ hg_) hg_)); clear hx_ hg_; obtain ⟨a0, a1, a2, a3, a4, a5, a6, a7, a8, a9, a10, a11, a12, a13, a14, a15⟩ := acells (Q5.out.1.bx (g5, actB a Al Nl cl) (by simp)).1; obtain ⟨y0, y1, y2⟩ := gcells (Q5.out.1.bx (g4, gB (.slice A N c) G) (by simp)).1; obtain ⟨p0, p1, p2⟩ := pcells (Q5.out.1.bx (g9, penR4 a.p0 a.p1 a.p2) (by simp)).1))
 refine start_ (n := 5) (S := fun w' => w'.cell? ⟨g4, 0, none⟩ = some (.slice A N c) ∧ w'.cell? ⟨g4, 1, none⟩ = some (.int .i64 G.row) ∧ w'.cell? ⟨g4, 2, none⟩ = some (.int .i64 G.col)) (ds := [3]) (tb 5 0) (by kernel_rfl) rfl rfl ⟨y0, y1, y2⟩ (fun hHeld => ?_)
 refine tP 0 (some 207) (tb 5 1) ?_
 refine tP 2 (some 6) (tb 5 5) ?_
 refine tK 1 (some 208) (tb 5 7) ?_
 refine last_ (i := 3) (N := none) (tb 5 15) rfl rfl (by kernel_rfl) (by decide) (fun K hK => ?_)
 refine whole_step (cs' := #[.slice A N c, .int .i64 G.row, .int .i64 G.col]) (by rfl) (.tmp 7) (.tmp 208) rfl rfl (by rfl) (by rfl) ((Q5.out.1.below bE).bx (g7, gZ) (by simp)).1 rfl (by kernel_rfl) (by simp [Value.oneCell']; done) ?_
 intro w8 hx_ hg_
 have Q8 := aS (And.intro (QO.store (l1 := [(g9, penR4 a.p0 a.p1 a.p2)]) (l2 := [(g5, actB a Al Nl cl), (g4, gB (.slice A N c) G)]) (o' := gB (.slice A N c) G) (Q5.out.1.below bE) hx_ hg_) hg_)
 clear hx_ hg_
 refine hK.out _ _ ?_
 clear hK K
 refine tP 4 (some 8) (tb 5 31) ?_
 refine done_ (by kernel_rfl) ?_
 all_goals go_wp2
 all_goals refine bodyPost_ret (results_tct rfl _ _ g7 32 _ (0, 0) _ rfl (Q8.out.1.bx (g7, gB (.slice A N c) G) (by simp)).1 Tryz.underlying32 rfl rfl) (by rfl) ?_
 all_goals exact ⟨g, _, O, rfl, Q8.out.1.gr.below bE, fun k hk => .inl hk, Q8.out.1.wr.then_ bE, ((HR.out.wr Q8.out.1.wr (fun k hk => HN.out k hk.1)).below bE).mono (fun k hk => ⟨.inl hk.1, HN.out k hk.1⟩)⟩
end Go.Proofs.YtblcmcdifgclcaaGreat.Grd
