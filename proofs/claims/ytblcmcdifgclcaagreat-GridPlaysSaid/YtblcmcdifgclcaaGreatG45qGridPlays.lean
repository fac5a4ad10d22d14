/- GridPlays: what its proof leads to. No condition. -/
import Derived.Test.YtblcmcdifgclcaaGreatG6qGridPlays
import Derived.Test.YtblcmcdifgclcaaGreatG23qGridPlays
import Derived.Test.YtblcmcdifgclcaaGreatG24qGridPlays
import Derived.Test.YtblcmcdifgclcaaGreatG26qGridPlays
import Derived.Test.YtblcmcdifgclcaaGreatG34qGridPlays
import Derived.Test.YtblcmcdifgclcaaGreatG35qGridPlays
import Derived.Test.YtblcmcdifgclcaaGreatG36qGridPlays
import Derived.Test.YtblcmcdifgclcaaGreatG37qGridPlays
import Derived.Test.YtblcmcdifgclcaaGreatG39qGridPlays
import Derived.Test.YtblcmcdifgclcaaGreatG40qGridPlays
import Derived.Test.YtblcmcdifgclcaaGreatG41qGridPlays
namespace Go.Proofs.YtblcmcdifgclcaaGreat.Grd
open Go.RowKit Go.Proofs.YtblcmcdifgclcaaGreat Go.Proofs.YtblcmcdifgclcaaGreat.PGridPlays Go.Proofs.YtblcmcdifgclcaaGreatW.PrintWords Go.Proofs.YtblcmcdifgclcaaGreatW.PrintLast Go.Proofs.YtblcmcdifgclcaaGreatW.PrintMore
set_option linter.unusedVariables false
set_option linter.unusedSimpArgs false
set_option maxRecDepth 100000
set_option maxHeartbeats 4000000
attribute [local go_sem] isSome_setCell max2_int min2_int max_two min_two
theorem do_0 {O okr : Nat → Prop} {w : World} {g : Nat} {G : GV} (h : GS O w g G) {A : Option Addr} {N c : Nat} (hR : RD kRL w okr (.slice A N c) (toL G.L)) (hn : ∀ k, okr k → ¬ O k) (a : AV) (ha : AW a) {Al : Option Addr} {Nl cl : Nat} (hk : a.k = 0) :
 Calls Tryz.prog 9 #[.pointer (some ⟨g, 0, none⟩), gV (.slice A N c) G, actV a Al Nl cl] w (DPost O okr w (gPut G a.r a.c a.x).1) := by
 obtain ⟨⟨G1, b1⟩, hG1⟩ : ∃ p, gPut G a.r a.c a.x = p := ⟨_, rfl⟩
 have HG1 := aS hG1
 rw [hG1]
 clear hG1
 have HS := aS h
 have HR := aS hR.bound
 have HN := aS hn
 have HW := aS ha
 have HK := aS h.ok
 have hT0 : (a.k == 0) = true := by rw [hk]; rfl
 clear h hR hn ha hk
 go_enter Tryz.func9, Tryz.ntmps9
 go_wp2_with (first | (refine bx 4 #[.slice A N c, .int .i64 G.row, .int .i64 G.col] 32 ?_; intro g4 hg_ w1 hx_ hb_; go_must (have Q1 := aS (QO.box (o := gB (.slice A N c) G) (QO.new HS.out) hx_ hg_ hb_)); clear hg_ hx_ hb_) | (refine bx 5 #[.int .i64 a.k, .int .i64 a.r, .int .i64 a.c, .int .i64 a.t, .int .i32 a.x.f0, .int .i32 a.x.f1.f0, .int .i32 a.x.f1.f1, .int .u8 a.x.f2, .int .u8 a.x.f3.f0, .int .u8 a.x.f3.f1, .int .u8 a.x.f3.f2, .int .i32 a.m, .int .u8 a.p0, .int .u8 a.p1, .int .u8 a.p2, .slice Al Nl cl] 43 ?_; intro g5 hg_ w2 hx_ hb_; go_must (have Q2 := aS (QO.box (o := actB a Al Nl cl) Q1.out hx_ hg_ hb_)); clear hg_ hx_ hb_) | (refine bx 7 #[.slice none 0 0, .int .i64 0, .int .i64 0] 32 ?_; intro g7 hg_ w3 hx_ hb_; go_must (have Q3 := aS (QO.box (o := gZ) Q2.out hx_ hg_ hb_)); clear hg_ hx_ hb_; obtain ⟨a0, a1, a2, a3, a4, a5, a6, a7, a8, a9, a10, a11, a12, a13, a14, a15⟩ := acells (Q3.out.bx (g5, actB a Al Nl cl) (by simp)).1) | (refine bx 9 #[.int .u8 0, .int .u8 0, .int .u8 0] 50 ?_; intro g9 hg_ w4 hx_ hb_; go_must (have Q4 := aS (QO.box (o := penR4 0 0 0) Q3.out hx_ hg_ hb_)); clear hg_ hx_ hb_) | ((with_reducible refine gate_store (t := 50) (p := 9) rfl ?_); go_must (refine step_whole (.tmp 9) (.tmp 21) rfl rfl rfl rfl rfl (Q4.out.bx (g9, penR4 0 0 0) (by simp)).1 rfl (by kernel_rfl) (by simp [Value.oneCell']; done) ?_); intro w5 hx_ hg_; go_must (have Q5 := aS (And.intro (QO.store (l1 := []) (l2 := [(g7, gZ), (g5, actB a Al Nl cl), (g4, gB (.slice A N c) G)]) (o' := penR4 a.p0 a.p1 a.p2) Q4.out hx_ hg_) hg_)); clear hx_ hg_; obtain ⟨a0, a1, a2, a3, a4, a5, a6, a7, a8, a9, a10, a11, a12, a13, a14, a15⟩ := acells (Q5.out.1.bx (g5, actB a Al Nl cl) (by simp)).1; obtain ⟨y0, y1, y2⟩ := gcells (Q5.out.1.bx (g4, gB (.slice A N c) G) (by simp)).1; obtain ⟨p0, p1, p2⟩ := pcells (Q5.out.1.bx (g9, penR4 a.p0 a.p1 a.p2) (by simp)).1))
 have Q5' := aS Q5.out.1
 refine start_ (n := 15) (S := fun w' => w'.cell? ⟨g4, 0, none⟩ = some (.slice A N c) ∧ w'.cell? ⟨g4, 1, none⟩ = some (.int .i64 G.row) ∧ w'.cell? ⟨g4, 2, none⟩ = some (.int .i64 G.col) ∧ w'.cell? ⟨g5, 1, none⟩ = some (.int .i64 a.r) ∧ w'.cell? ⟨g5, 2, none⟩ = some (.int .i64 a.c) ∧ w'.cell? ⟨g5, 4, none⟩ = some (.int .i32 a.x.f0) ∧ w'.cell? ⟨g5, 5, none⟩ = some (.int .i32 a.x.f1.f0) ∧ w'.cell? ⟨g5, 6, none⟩ = some (.int .i32 a.x.f1.f1) ∧ w'.cell? ⟨g5, 7, none⟩ = some (.int .u8 a.x.f2) ∧ w'.cell? ⟨g5, 8, none⟩ = some (.int .u8 a.x.f3.f0) ∧ w'.cell? ⟨g5, 9, none⟩ = some (.int .u8 a.x.f3.f1) ∧ w'.cell? ⟨g5, 10, none⟩ = some (.int .u8 a.x.f3.f2)) (ds := [13]) (tb 15 0) (by kernel_rfl) rfl rfl ⟨y0, y1, y2, a1, a2, a4, a5, a6, a7, a8, a9, a10⟩ (fun hHeld => ?_)
 refine tP 1 (some 28) (tb 15 2) ?_
 refine tP 3 (some 30) (tb 15 10) ?_
 refine tP 5 (some 32) (tb 15 42) ?_
 refine tK 0 (some 27) (tb 15 43) ?_
 refine tK 2 (some 29) (tb 15 47) ?_
 refine tK 4 (some 31) (tb 15 63) ?_
 refine tK 6 (some 33) (tb 15 127) ?_
 refine join_ (σ := Option Addr × Nat × Nat × Nat) 2 (tb 15 8191) (fun s => [(34, refV a.x), (35, .tuple #[gV (.slice s.1 s.2.1 s.2.2.1) G1, .bool b1]), (10, .pointer (some ⟨s.2.2.2, 0, none⟩)), (26, .tuple #[gV (.slice s.1 s.2.1 s.2.2.1) G1, .bool b1]), (36, gV (.slice s.1 s.2.1 s.2.2.1) G1), (37, .bool b1)]) (fun s w' => QO O O w w' g G ((s.2.2.2, gZ) :: [(g9, penR4 a.p0 a.p1 a.p2), (g7, gZ), (g5, actB a Al Nl cl), (g4, gB (.slice A N c) G)]) ∧ RD kRL w' (fun k => ((okr k ∧ k < w.heap.size) ∨ w5.heap.size ≤ k) ∧ k ≠ s.2.2.2) (.slice s.1 s.2.1 s.2.2.1) (toL G1.L)) ?_ ?_
 rotate_left
 ·intro hCont
  refine two_ (i := 7) (j := 12) (Ni := some 34) (Nj := some 10) (tb 15 255) (tb 15 4223) rfl rfl rfl rfl (by kernel_rfl) (by decide) (by decide) (fun K hK => ?_) (fun K hK => ?_)
  ·skip
   refine gO Tryz.func15 #[cellV a.x] ?_
   with_reducible refine (prolepsislaw05_Of.calls a.x.f0 a.x.f1.f0 a.x.f1.f1 a.x.f2 a.x.f3.f0 a.x.f3.f1 a.x.f3.f2 a.x.f0 a.x.f1.f0 a.x.f1.f1 a.x.f2 a.x.f3.f0 a.x.f3.f1 a.x.f3.f2 _ (lOf1_ok a.x HW.out.x)).mono ?_
   rintro e wb1 ⟨rfl, hb⟩
   refine ⟨_, rfl, ?_⟩
   have Qb1 := aS (QO.below (Q5'.out.below (below_drew (Below.refl _ _))) hb)
   have Qb1sz := aS (show w5.heap.size ≤ wb1.heap.size from hb.size)
   clear hb
   obtain ⟨a0, a1, a2, a3, a4, a5, a6, a7, a8, a9, a10, a11, a12, a13, a14, a15⟩ := acells (Qb1.out.bx (g5, actB a Al Nl cl) (by simp)).1
   obtain ⟨y0, y1, y2⟩ := gcells (Qb1.out.bx (g4, gB (.slice A N c) G) (by simp)).1
   refine hK.out _ _ ⟨y0, y1, y2, a1, a2, a4, a5, a6, a7, a8, a9, a10⟩ (fun hHeld => ?_)
   clear hK K
   refine nm ?_
   refine two_ (i := 8) (j := 12) (Ni := some 35) (Nj := some 10) (tb 15 511) (tb 15 4351) rfl rfl rfl rfl (by kernel_rfl) (by decide) (by decide) (fun K hK => ?_) (fun K hK => ?_)
   ·skip
    refine gO Tryz.func30 #[gV (.slice A N c) G, .int .i64 a.r, .int .i64 a.c, refV a.x] ?_
    with_reducible refine (rgPut_any HK.out (HR.out.wr Qb1.out.wr (fun k hk => HN.out k hk.1)) a.r a.c HW.out.c a.x HW.out.x).mono ?_
    rintro e wc2 ⟨v6, rfl, hd6, hb6⟩
    refine ⟨_, rfl, ?_⟩
    rw [HG1.out] at hd6 ⊢
    obtain ⟨A6, M6, d6, rfl⟩ := RD.slice hd6
    have Qc2 := aS (QO.below Qb1.out hb6)
    have Dc3 := aS (hd6.bound.mono (ok' := fun k => ((okr k ∧ k < w.heap.size) ∨ w5.heap.size ≤ k) ∧ k ≠ wc2.heap.size) (fun k hk => ⟨hk.1.imp id (fun e => Nat.le_trans Qb1sz.out e), fun e => by have := hk.2; omega⟩))
    obtain ⟨a0, a1, a2, a3, a4, a5, a6, a7, a8, a9, a10, a11, a12, a13, a14, a15⟩ := acells (Qc2.out.bx (g5, actB a Al Nl cl) (by simp)).1
    obtain ⟨y0, y1, y2⟩ := gcells (Qc2.out.bx (g4, gB (.slice A N c) G) (by simp)).1
    refine hK.out _ _ ⟨y0, y1, y2, a1, a2, a4, a5, a6, a7, a8, a9, a10⟩ (fun hHeld => ?_)
    clear hK K
    refine nm ?_
    refine tP 9 (some 26) (tb 15 1023) ?_
    refine tP 10 (some 36) (tb 15 2047) ?_
    refine tP 11 (some 37) (tb 15 4095) ?_
    refine sO 12 (some 10) (tb 15 8191) (fun K hK => ?_)
    refine value_ (w1 := ?_) (v := ?_) (by rfl) rfl ?_ ?_
    rotate_left 2
    ·go_simp
     constructor
     ·rfl
     ·rfl
    have Qc3 := aS (show QO O O w (wc2.alloc gZ) g G ((wc2.heap.size, gZ) :: [(g9, penR4 a.p0 a.p1 a.p2), (g7, gZ), (g5, actB a Al Nl cl), (g4, gB (.slice A N c) G)]) from QO.box Qc2.out (by first | exact blk_new _ _ | (have := blk_new (wc2) gZ; simpa using this)) (by first | rfl | (simp; done)) (below_alloc (Below.refl _ _) _))
    obtain ⟨a0, a1, a2, a3, a4, a5, a6, a7, a8, a9, a10, a11, a12, a13, a14, a15⟩ := acells (Qc3.out.bx (g5, actB a Al Nl cl) (by simp)).1
    obtain ⟨y0, y1, y2⟩ := gcells (Qc3.out.bx (g4, gB (.slice A N c) G) (by simp)).1
    refine hK.out _ _ ⟨y0, y1, y2, a1, a2, a4, a5, a6, a7, a8, a9, a10⟩ (fun hHeld => ?_)
    clear hK K
    refine nm ?_
    exact norm_ (by simp only [putAll, Act.put, List.setIfInBounds_toArray, List.set_cons_zero, List.set_cons_succ]) (hCont (A6, M6, d6, wc2.heap.size) _ ⟨Qc3.out, Dc3.out.below (below_alloc (Below.refl _ _) _)⟩)
   ·skip
    refine value_ (w1 := ?_) (v := ?_) (by rfl) rfl ?_ ?_
    rotate_left 2
    ·go_simp
     constructor
     ·rfl
     ·rfl
    have Qb2 := aS (show QO O O w (wb1.alloc gZ) g G ((wb1.heap.size, gZ) :: [(g9, penR4 a.p0 a.p1 a.p2), (g7, gZ), (g5, actB a Al Nl cl), (g4, gB (.slice A N c) G)]) from QO.box Qb1.out (by first | exact blk_new _ _ | (have := blk_new (wb1) gZ; simpa using this)) (by first | rfl | (simp; done)) (below_alloc (Below.refl _ _) _))
    obtain ⟨a0, a1, a2, a3, a4, a5, a6, a7, a8, a9, a10, a11, a12, a13, a14, a15⟩ := acells (Qb2.out.bx (g5, actB a Al Nl cl) (by simp)).1
    obtain ⟨y0, y1, y2⟩ := gcells (Qb2.out.bx (g4, gB (.slice A N c) G) (by simp)).1
    refine hK.out _ _ ⟨y0, y1, y2, a1, a2, a4, a5, a6, a7, a8, a9, a10⟩ (fun hHeld => ?_)
    clear hK K
    refine nm ?_
    refine sO 8 (some 35) (tb 15 4607) (fun K hK => ?_)
    refine gO Tryz.func30 #[gV (.slice A N c) G, .int .i64 a.r, .int .i64 a.c, refV a.x] ?_
    with_reducible refine (rgPut_any HK.out (HR.out.wr Qb2.out.wr (fun k hk => HN.out k hk.1)) a.r a.c HW.out.c a.x HW.out.x).mono ?_
    rintro e wb3 ⟨v6, rfl, hd6, hb6⟩
    refine ⟨_, rfl, ?_⟩
    rw [HG1.out] at hd6 ⊢
    obtain ⟨A6, M6, d6, rfl⟩ := RD.slice hd6
    have Qb3 := aS (QO.below Qb2.out hb6)
    have Db3 := aS (show RD kRL wb3 (fun k => ((okr k ∧ k < w.heap.size) ∨ w5.heap.size ≤ k) ∧ k ≠ wb1.heap.size) (.slice A6 M6 d6) (toL G1.L) from hd6.mono (fun k hk => ⟨hk.imp id (fun e => Nat.le_trans (Nat.le_trans Qb1sz.out (by simp [size_al])) e), fun e => by subst e; exact hk.elim (fun h => Nat.lt_irrefl _ (Nat.lt_of_lt_of_le h.2 (Qb2.out.bx (wb1.heap.size, gZ) (by simp)).2.1)) (fun h => Nat.lt_irrefl _ (Nat.lt_of_lt_of_le (blk_lt (Qb2.out.bx (wb1.heap.size, gZ) (by simp)).1) h))⟩))
    obtain ⟨a0, a1, a2, a3, a4, a5, a6, a7, a8, a9, a10, a11, a12, a13, a14, a15⟩ := acells (Qb3.out.bx (g5, actB a Al Nl cl) (by simp)).1
    obtain ⟨y0, y1, y2⟩ := gcells (Qb3.out.bx (g4, gB (.slice A N c) G) (by simp)).1
    refine hK.out _ _ ⟨y0, y1, y2, a1, a2, a4, a5, a6, a7, a8, a9, a10⟩ (fun hHeld => ?_)
    clear hK K
    refine nm ?_
    refine tP 9 (some 26) (tb 15 5119) ?_
    refine tP 10 (some 36) (tb 15 6143) ?_
    refine tP 11 (some 37) (tb 15 8191) ?_
    exact norm_ (by simp only [putAll, Act.put, List.setIfInBounds_toArray, List.set_cons_zero, List.set_cons_succ]) (hCont (A6, M6, d6, wb1.heap.size) _ ⟨Qb3.out, Db3.out⟩)
  ·skip
   refine value_ (w1 := ?_) (v := ?_) (by rfl) rfl ?_ ?_
   rotate_left 2
   ·go_simp
    constructor
    ·rfl
    ·rfl
   have Qa1 := aS (show QO O O w (w5.drew.alloc gZ) g G ((w5.heap.size, gZ) :: [(g9, penR4 a.p0 a.p1 a.p2), (g7, gZ), (g5, actB a Al Nl cl), (g4, gB (.slice A N c) G)]) from QO.box (Q5'.out.below (below_drew (Below.refl _ _))) (by first | exact blk_new _ _ | (have := blk_new (w5.drew) gZ; simpa using this)) (by first | rfl | (simp; done)) (below_alloc (Below.refl _ _) _))
   obtain ⟨a0, a1, a2, a3, a4, a5, a6, a7, a8, a9, a10, a11, a12, a13, a14, a15⟩ := acells (Qa1.out.bx (g5, actB a Al Nl cl) (by simp)).1
   obtain ⟨y0, y1, y2⟩ := gcells (Qa1.out.bx (g4, gB (.slice A N c) G) (by simp)).1
   refine hK.out _ _ ⟨y0, y1, y2, a1, a2, a4, a5, a6, a7, a8, a9, a10⟩ (fun hHeld => ?_)
   clear hK K
   refine nm ?_
   refine sO 7 (some 34) (tb 15 4351) (fun K hK => ?_)
   refine gO Tryz.func15 #[cellV a.x] ?_
   with_reducible refine (prolepsislaw05_Of.calls a.x.f0 a.x.f1.f0 a.x.f1.f1 a.x.f2 a.x.f3.f0 a.x.f3.f1 a.x.f3.f2 a.x.f0 a.x.f1.f0 a.x.f1.f1 a.x.f2 a.x.f3.f0 a.x.f3.f1 a.x.f3.f2 _ (lOf1_ok a.x HW.out.x)).mono ?_
   rintro e wa2 ⟨rfl, hb⟩
   refine ⟨_, rfl, ?_⟩
   have Qa2 := aS (QO.below Qa1.out hb)
   have Qa2sz := aS (show (w5.drew.alloc gZ).heap.size ≤ wa2.heap.size from hb.size)
   clear hb
   obtain ⟨a0, a1, a2, a3, a4, a5, a6, a7, a8, a9, a10, a11, a12, a13, a14, a15⟩ := acells (Qa2.out.bx (g5, actB a Al Nl cl) (by simp)).1
   obtain ⟨y0, y1, y2⟩ := gcells (Qa2.out.bx (g4, gB (.slice A N c) G) (by simp)).1
   refine hK.out _ _ ⟨y0, y1, y2, a1, a2, a4, a5, a6, a7, a8, a9, a10⟩ (fun hHeld => ?_)
   clear hK K
   refine nm ?_
   refine sO 8 (some 35) (tb 15 4607) (fun K hK => ?_)
   refine gO Tryz.func30 #[gV (.slice A N c) G, .int .i64 a.r, .int .i64 a.c, refV a.x] ?_
   with_reducible refine (rgPut_any HK.out (HR.out.wr Qa2.out.wr (fun k hk => HN.out k hk.1)) a.r a.c HW.out.c a.x HW.out.x).mono ?_
   rintro e wa3 ⟨v6, rfl, hd6, hb6⟩
   refine ⟨_, rfl, ?_⟩
   rw [HG1.out] at hd6 ⊢
   obtain ⟨A6, M6, d6, rfl⟩ := RD.slice hd6
   have Qa3 := aS (QO.below Qa2.out hb6)
   have Da3 := aS (show RD kRL wa3 (fun k => ((okr k ∧ k < w.heap.size) ∨ w5.heap.size ≤ k) ∧ k ≠ w5.heap.size) (.slice A6 M6 d6) (toL G1.L) from hd6.mono (fun k hk => ⟨hk.imp id (fun e => Nat.le_trans (Nat.le_trans (Nat.le_trans (Nat.le_succ _) (Nat.le_of_eq (size_al w5.drew gZ).symm)) Qa2sz.out) e), fun e => by subst e; exact hk.elim (fun h => Nat.lt_irrefl _ (Nat.lt_of_lt_of_le h.2 (Qa2.out.bx (w5.heap.size, gZ) (by simp)).2.1)) (fun h => Nat.lt_irrefl _ (Nat.lt_of_lt_of_le (blk_lt (Qa2.out.bx (w5.heap.size, gZ) (by simp)).1) h))⟩))
   obtain ⟨a0, a1, a2, a3, a4, a5, a6, a7, a8, a9, a10, a11, a12, a13, a14, a15⟩ := acells (Qa3.out.bx (g5, actB a Al Nl cl) (by simp)).1
   obtain ⟨y0, y1, y2⟩ := gcells (Qa3.out.bx (g4, gB (.slice A N c) G) (by simp)).1
   refine hK.out _ _ ⟨y0, y1, y2, a1, a2, a4, a5, a6, a7, a8, a9, a10⟩ (fun hHeld => ?_)
   clear hK K
   refine nm ?_
   refine tP 9 (some 26) (tb 15 5119) ?_
   refine tP 10 (some 36) (tb 15 6143) ?_
   refine tP 11 (some 37) (tb 15 8191) ?_
   exact norm_ (by simp only [putAll, Act.put, List.setIfInBounds_toArray, List.set_cons_zero, List.set_cons_succ]) (hCont (A6, M6, d6, w5.heap.size) _ ⟨Qa3.out, Da3.out⟩)
 rintro ⟨A6, M6, d6, g10⟩ w7 ⟨hq, hd⟩
 dsimp only at hq hd
 have Q7 := aS hq
 have D7 := aS hd
 clear hq hd
 obtain ⟨a0, a1, a2, a3, a4, a5, a6, a7, a8, a9, a10, a11, a12, a13, a14, a15⟩ := acells (Q7.out.bx (g5, actB a Al Nl cl) (by simp)).1
 obtain ⟨y0, y1, y2⟩ := gcells (Q7.out.bx (g4, gB (.slice A N c) G) (by simp)).1
 have hHeld := (And.intro y0 (And.intro y1 (And.intro y2 (And.intro a1 (And.intro a2 (And.intro a4 (And.intro a5 (And.intro a6 (And.intro a7 (And.intro a8 (And.intro a9 a10)))))))))))
 refine norm_ (a' := ?_) ?_ ?_
 rotate_left
 ·simp only [putAll, Act.put, List.setIfInBounds_toArray, List.set_cons_zero, List.set_cons_succ]
  rfl
 refine last_ (i := 13) (N := none) (tb 15 16383) rfl rfl (by kernel_rfl) (by decide) (fun K hK => ?_)
 refine whole_step (cs' := #[.slice A6 M6 d6, .int .i64 G1.row, .int .i64 G1.col]) (by rfl) (.tmp 10) (.tmp 36) rfl rfl (by rfl) (by rfl) ((Q7.out.below bE).bx (g10, gZ) (by simp)).1 rfl (by kernel_rfl) (by simp [Value.oneCell']; done) ?_
 intro w8 hx_ hg_
 have Q8 := aS (And.intro (QO.store (l1 := []) (l2 := [(g9, penR4 a.p0 a.p1 a.p2), (g7, gZ), (g5, actB a Al Nl cl), (g4, gB (.slice A N c) G)]) (o' := gB (.slice A6 M6 d6) G1) (Q7.out.below bE) hx_ hg_) hg_)
 have D8 := aS (((D7.out.below bE).wrg hg_ (fun k hk => hk.2)).bound.mono (ok' := fun k => ((okr k ∧ k < w.heap.size) ∨ w5.heap.size ≤ k) ∧ k < w8.heap.size) (fun k hk => ⟨hk.1.1, hk.2⟩))
 clear hx_ hg_
 refine hK.out _ _ ?_
 clear hK K
 refine tP 14 (some 11) (tb 15 32767) ?_
 refine done_ (by kernel_rfl) ?_
 obtain ⟨z0, z1, z2⟩ := gcells (Q8.out.1.bx (g10, gB (.slice A6 M6 d6) G1) (by simp)).1
 obtain ⟨a0, a1, a2, a3, a4, a5, a6, a7, a8, a9, a10, a11, a12, a13, a14, a15⟩ := acells (Q8.out.1.bx (g5, actB a Al Nl cl) (by simp)).1
 have S8 := aS (Nat.le_refl w8.heap.size)
 have HX := aS (show ∀ k, ((okr k ∧ k < w.heap.size) ∨ w5.heap.size ≤ k) ∧ k < w8.heap.size → ¬ O k from fun k hk ho => hk.1.elim (fun h => HN.out k h.1 ho) (fun h => by have := HS.out.ob k ho; have := Q5'.out.wr.size; omega))
 have H7 := aS (show w.heap.size ≤ g7 ∧ g7 < w5.heap.size from ⟨(Q5'.out.bx (g7, gZ) (by simp)).2.1, blk_lt (Q5'.out.bx (g7, gZ) (by simp)).1⟩)
 go_wp2
 refine start_ (n := 15) (S := fun w' => w'.cell? ⟨g10, 0, none⟩ = some (.slice A6 M6 d6) ∧ w'.cell? ⟨g10, 1, none⟩ = some (.int .i64 G1.row) ∧ w'.cell? ⟨g10, 2, none⟩ = some (.int .i64 G1.col) ∧ w'.cell? ⟨g5, 1, none⟩ = some (.int .i64 a.r) ∧ w'.cell? ⟨g5, 2, none⟩ = some (.int .i64 a.c) ∧ w'.cell? ⟨g5, 4, none⟩ = some (.int .i32 a.x.f0) ∧ w'.cell? ⟨g5, 5, none⟩ = some (.int .i32 a.x.f1.f0) ∧ w'.cell? ⟨g5, 6, none⟩ = some (.int .i32 a.x.f1.f1) ∧ w'.cell? ⟨g5, 7, none⟩ = some (.int .u8 a.x.f2) ∧ w'.cell? ⟨g5, 8, none⟩ = some (.int .u8 a.x.f3.f0) ∧ w'.cell? ⟨g5, 9, none⟩ = some (.int .u8 a.x.f3.f1) ∧ w'.cell? ⟨g5, 10, none⟩ = some (.int .u8 a.x.f3.f2)) (ds := [13]) (tb 15 0) (by kernel_rfl) rfl rfl ⟨z0, z1, z2, a1, a2, a4, a5, a6, a7, a8, a9, a10⟩ (fun hHeld => ?_)
 refine tP 0 (some 38) (tb 15 1) ?_
 refine tP 2 (some 40) (tb 15 5) ?_
 refine tP 3 (some 41) (tb 15 13) ?_
 refine tP 5 (some 43) (tb 15 45) ?_
 refine tP 7 (some 45) (tb 15 173) ?_
 refine tP 10 (some 48) (tb 15 1197) ?_
 refine tK 1 (some 39) (tb 15 1199) ?_
 refine tK 4 (some 42) (tb 15 1215) ?_
 refine tK 6 (some 44) (tb 15 1279) ?_
 refine tK 8 (some 46) (tb 15 1535) ?_
 refine sO 9 (some 47) (tb 15 2047) (fun K hK => ?_)
 refine gO Tryz.func23 #[.pointer (some ⟨g, 0, none⟩), .int .i64 a.r, .int .i64 a.c, cellV a.x] ?_
 with_reducible refine (Put_any (Q8.out.1.below bE).gr a.r a.c HW.out.c a.x HW.out.x).mono ?_
 rintro e w9 ⟨rfl, hd⟩
 refine ⟨_, rfl, ?_⟩
 rw [HG1.out] at hd ⊢
 obtain ⟨O9, hs9, q9, hr9⟩ := Q8.out.1.did' bE S8.out hd
 have Q9 := aS (And.intro q9 (And.intro (hr9 _ _ _ D8.out HX.out) hs9))
 clear hd hs9 q9 hr9
 obtain ⟨z0, z1, z2⟩ := gcells (Q9.out.1.bx (g10, gB (.slice A6 M6 d6) G1) (by simp)).1
 obtain ⟨a0, a1, a2, a3, a4, a5, a6, a7, a8, a9, a10, a11, a12, a13, a14, a15⟩ := acells (Q9.out.1.bx (g5, actB a Al Nl cl) (by simp)).1
 refine hK.out _ _ ⟨z0, z1, z2, a1, a2, a4, a5, a6, a7, a8, a9, a10⟩ (fun hHeld => ?_)
 clear hK K
 refine nm ?_
 refine tP 11 (some 49) (tb 15 4095) ?_
 refine tP 12 (some 6) (tb 15 8191) ?_
 refine last_ (i := 13) (N := none) (tb 15 16383) rfl rfl (by kernel_rfl) (by decide) (fun K hK => ?_)
 refine whole_step (cs' := #[.slice A6 M6 d6, .int .i64 G1.row, .int .i64 G1.col]) (by rfl) (.tmp 7) (.tmp 39) rfl rfl (by rfl) (by rfl) ((Q9.out.1.below bE).bx (g7, gZ) (by simp)).1 rfl (by kernel_rfl) (by simp [Value.oneCell']; done) ?_
 intro w10 hx_ hg_
 have Q10 := aS (And.intro (QO.store (l1 := [(g10, gB (.slice A6 M6 d6) G1), (g9, penR4 a.p0 a.p1 a.p2)]) (l2 := [(g5, actB a Al Nl cl), (g4, gB (.slice A N c) G)]) (o' := gB (.slice A6 M6 d6) G1) (Q9.out.1.below bE) hx_ hg_) hg_)
 have D10 := aS (RD.fin3 (Q9.out.2.1.below bE) hg_ H7.out.1 H7.out.2 Q5'.out.wr.size HS.out.ob Q9.out.2.2 HN.out)
 clear hx_ hg_
 refine hK.out _ _ ?_
 clear hK K
 refine tP 14 (some 8) (tb 15 32767) ?_
 refine done_ (by kernel_rfl) ?_
 all_goals go_wp2
 all_goals refine bodyPost_ret (results_tct rfl _ _ g7 32 _ (0, 0) _ rfl (Q10.out.1.bx (g7, gB (.slice A6 M6 d6) G1) (by simp)).1 Tryz.underlying32 rfl rfl) (by rfl) ?_
 all_goals exact ⟨g, _, O9, rfl, Q10.out.1.gr.below bE, Q10.out.1.sub, Q10.out.1.wr.then_ bE, D10.out.below bE⟩
end Go.Proofs.YtblcmcdifgclcaaGreat.Grd
