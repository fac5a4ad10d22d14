/- GridPlays: what its proof leads to. No condition. -/
import Derived.Test.YtblcmcdifgclcaaGreatG6qGridPlays
import Derived.Test.YtblcmcdifgclcaaGreatG23qGridPlays
import Derived.Test.YtblcmcdifgclcaaGreatG24qGridPlays
import Derived.Test.YtblcmcdifgclcaaGreatG26qGridPlays
import Derived.Test.YtblcmcdifgclcaaGreatG35qGridPlays
import Derived.Test.YtblcmcdifgclcaaGreatG36qGridPlays
import Derived.Test.YtblcmcdifgclcaaGreatG37qGridPlays
import Derived.Test.YtblcmcdifgclcaaGreatG39qGridPlays
import Derived.Test.YtblcmcdifgclcaaGreatG40qGridPlays
import Derived.Test.YtblcmcdifgclcaaGreatG41qGridPlays
namespace Go.Proofs.YtblcmcdifgclcaaGreat.Grd
open Go.RowKit Go.Proofs.YtblcmcdifgclcaaGreat Go.Proofs.YtblcmcdifgclcaaGreat.PGridPlays Go.Proofs.YtblcmcdifgclcaaGreatW.PrintWords Go.Proofs.YtblcmcdifgclcaaGreatW.PrintLast Go.Proofs.YtblcmcdifgclcaaGreatW.PrintMore
set_option linter.unusedVariables false
set_option linter.unusedSimpArgs false
set_option maxRecDepth 100000
set_option maxHeartbeats 4000000
attribute [local go_sem] isSome_setCell max2_int min2_int max_two min_two
theorem cut_any {w : World} {A : Option Addr} {N c : Nat} {l : List CS} (hN : N = l.length) (hc : N ≤ c) (hC : Kd.C kCl w A N l) : Calls Tryz.prog 35 #[.slice A N c] w fun e w' => ∃ A' c', e = .returned (.slice A' (l.take 30).length c') ∧ (l.take 30).length ≤ c' ∧ Kd.C kCl w' A' (l.take 30).length (l.take 30) ∧ Below w.heap.size w w' := by
 subst hN
 refine (prolepsislaw06_Cut.calls A c l _ w hC hc (Cut_ok l)).mono ?_
 rintro e w' ⟨v, rfl, hR, hb⟩
 obtain ⟨A', c', rfl, hc', -⟩ := Kd.R_reads hR
 exact ⟨A', c', rfl, hc', Kd.F_now (Kd.R_F hR), hb⟩
theorem of_any {w : World} {A : Option Addr} {c : Nat} {l : List CS} (hC : Kd.C kCl w A l.length l) (hc : l.length ≤ c) (h8 : ∀ x ∈ l, W32 x) (hl : l.length ≤ 1000) : Calls Tryz.prog 37 #[.slice A l.length c] w fun e w' => ∃ A' c', e = .returned (.slice A' l.length c') ∧ l.length ≤ c' ∧ Kd.F kRC w' (fun k => w.heap.size ≤ k) A' l.length (l.map toR) ∧ Below w.heap.size w w' := by
 refine (prolepsislaw06_Of.calls 2000 A c l _ w hC hc (Of_ok l h8 (by omega) 2000 (by omega))).mono ?_
 rintro e w' ⟨v, rfl, hR, hb⟩
 obtain ⟨A', c', rfl, hc', hF'⟩ := RD.ofR hR
 rw [List.length_map] at hc' hF' ⊢
 exact ⟨A', c', rfl, hc', hF', hb⟩
theorem do_3 {O okr : Nat → Prop} {w : World} {g : Nat} {G : GV} (h : GS O w g G) {A : Option Addr} {N c : Nat} (hR : RD kRL w okr (.slice A N c) (toL G.L)) (hn : ∀ k, okr k → ¬ O k) (a : AV) (ha : AW a) {Al : Option Addr} {Nl cl : Nat} (hk : a.k = 3) {B : Nat} (hBw : B ≤ w.heap.size) (hBO : ∀ k, O k → B ≤ k) (hNl : Nl = a.l.length ∧ Nl ≤ cl) (hL : ∀ W', Below B w W' → Kd.C kCl W' Al Nl a.l) :
 Calls Tryz.prog 9 #[.pointer (some ⟨g, 0, none⟩), gV (.slice A N c) G, actV a Al Nl cl] w (DPost O okr w (gLay G a.r (a.l.take 30)).1) := by
 have HB := aS (And.intro hBw (And.intro hBO (And.intro hNl hL)))
 clear hBw hBO hNl hL
 obtain ⟨l1, hl1⟩ : ∃ l, a.l.take 30 = l := ⟨_, rfl⟩
 have HL1 := aS (show l1.length ≤ 1000 ∧ ∀ x ∈ l1, W32 x from ⟨by rw [← hl1, List.length_take]; omega, fun x hx => ha.l x (by rw [← hl1] at hx; exact List.mem_of_mem_take hx)⟩)
 rw [hl1]
 have HCT := aS hl1
 clear hl1
 obtain ⟨⟨G1, b1⟩, hG1⟩ : ∃ p, gLay G a.r l1 = p := ⟨_, rfl⟩
 have HG1 := aS hG1
 rw [hG1]
 clear hG1
 have HS := aS h
 have HR := aS hR.bound
 have HN := aS hn
 have HW := aS ha
 have HK := aS h.ok
 have hT0 : (a.k == 0) = false := by rw [hk]; rfl
 have hT1 : (a.k == 1) = false := by rw [hk]; rfl
 have hT2 : (a.k == 2) = false := by rw [hk]; rfl
 have hT3 : (a.k == 3) = true := by rw [hk]; rfl
 clear h hR hn ha hk
 go_enter Tryz.func9, Tryz.ntmps9
 go_wp2_with (first | (refine bx 4 #[.slice A N c, .int .i64 G.row, .int .i64 G.col] 32 ?_; intro g4 hg_ w1 hx_ hb_; go_must (have Q1 := aS (QO.box (o := gB (.slice A N c) G) (QO.new HS.out) hx_ hg_ hb_)); clear hg_ hx_ hb_) | (refine bx 5 #[.int .i64 a.k, .int .i64 a.r, .int .i64 a.c, .int .i64 a.t, .int .i32 a.x.f0, .int .i32 a.x.f1.f0, .int .i32 a.x.f1.f1, .int .u8 a.x.f2, .int .u8 a.x.f3.f0, .int .u8 a.x.f3.f1, .int .u8 a.x.f3.f2, .int .i32 a.m, .int .u8 a.p0, .int .u8 a.p1, .int .u8 a.p2, .slice Al Nl cl] 43 ?_; intro g5 hg_ w2 hx_ hb_; go_must (have Q2 := aS (QO.box (o := actB a Al Nl cl) Q1.out hx_ hg_ hb_)); clear hg_ hx_ hb_) | (refine bx 7 #[.slice none 0 0, .int .i64 0, .int .i64 0] 32 ?_; intro g7 hg_ w3 hx_ hb_; go_must (have Q3 := aS (QO.box (o := gZ) Q2.out hx_ hg_ hb_)); clear hg_ hx_ hb_; obtain ⟨a0, a1, a2, a3, a4, a5, a6, a7, a8, a9, a10, a11, a12, a13, a14, a15⟩ := acells (Q3.out.bx (g5, actB a Al Nl cl) (by simp)).1) | (refine bx 9 #[.int .u8 0, .int .u8 0, .int .u8 0] 50 ?_; intro g9 hg_ w4 hx_ hb_; go_must (have Q4 := aS (QO.box (o := penR4 0 0 0) Q3.out hx_ hg_ hb_)); clear hg_ hx_ hb_) | ((with_reducible refine gate_store (t := 50) (p := 9) rfl ?_); go_must (refine step_whole (.tmp 9) (.tmp 21) rfl rfl rfl rfl rfl (Q4.out.bx (g9, penR4 0 0 0) (by simp)).1 rfl (by kernel_rfl) (by simp [Value.oneCell']; done) ?_); intro w5 hx_ hg_; go_must (have Q5 := aS (And.intro (QO.store (l1 := []) (l2 := [(g7, gZ), (g5, actB a Al Nl cl), (g4, gB (.slice A N c) G)]) (o' := penR4 a.p0 a.p1 a.p2) Q4.out hx_ hg_) hg_)); clear hx_ hg_; obtain ⟨a0, a1, a2, a3, a4, a5, a6, a7, a8, a9, a10, a11, a12, a13, a14, a15⟩ := acells (Q5.out.1.bx (g5, actB a Al Nl cl) (by simp)).1; obtain ⟨y0, y1, y2⟩ := gcells (Q5.out.1.bx (g4, gB (.slice A N c) G) (by simp)).1; obtain ⟨p0, p1, p2⟩ := pcells (Q5.out.1.bx (g9, penR4 a.p0 a.p1 a.p2) (by simp)).1) | (go_at_call 35; go_must (refine (cut_any HB.out.2.2.1.1 HB.out.2.2.1.2 (HB.out.2.2.2 _ (Q5.out.1.wr.toBelow HB.out.1 HB.out.2.1))).mono ?_); rintro e w6 ⟨Ac, cc, rfl, hcc, hCC, hb⟩; rw [HCT.out] at hcc hCC ⊢; have Q5' := aS (Q5.out.1.below hb); have HC := aS (And.intro hCC hcc); clear hcc hCC hb; obtain ⟨a0, a1, a2, a3, a4, a5, a6, a7, a8, a9, a10, a11, a12, a13, a14, a15⟩ := acells (Q5'.out.bx (g5, actB a Al Nl cl) (by simp)).1; obtain ⟨y0, y1, y2⟩ := gcells (Q5'.out.bx (g4, gB (.slice A N c) G) (by simp)).1))
 refine start_ (n := 12) (S := fun w' => w'.cell? ⟨g4, 0, none⟩ = some (.slice A N c) ∧ w'.cell? ⟨g4, 1, none⟩ = some (.int .i64 G.row) ∧ w'.cell? ⟨g4, 2, none⟩ = some (.int .i64 G.col) ∧ w'.cell? ⟨g5, 1, none⟩ = some (.int .i64 a.r)) (ds := [10]) (tb 12 0) (by kernel_rfl) rfl rfl ⟨y0, y1, y2, a1⟩ (fun hHeld => ?_)
 refine tP 1 (some 105) (tb 12 2) ?_
 refine tP 3 (some 107) (tb 12 10) ?_
 refine tK 0 (some 104) (tb 12 11) ?_
 refine tK 2 (some 106) (tb 12 15) ?_
 refine join_ (σ := Option Addr × Nat × Nat × Nat × Option Addr × Nat) 2 (tb 12 1023) (fun s => [(108, .slice s.2.2.2.2.1 l1.length s.2.2.2.2.2), (109, .tuple #[gV (.slice s.1 s.2.1 s.2.2.1) G1, .bool b1]), (15, .pointer (some ⟨s.2.2.2.1, 0, none⟩)), (103, .tuple #[gV (.slice s.1 s.2.1 s.2.2.1) G1, .bool b1]), (110, gV (.slice s.1 s.2.1 s.2.2.1) G1), (111, .bool b1)]) (fun s w' => QO O O w w' g G ((s.2.2.2.1, gZ) :: [(g9, penR4 a.p0 a.p1 a.p2), (g7, gZ), (g5, actB a Al Nl cl), (g4, gB (.slice A N c) G)]) ∧ RD kRL w' (fun k => ((okr k ∧ k < w.heap.size) ∨ w6.heap.size ≤ k) ∧ k ≠ s.2.2.2.1) (.slice s.1 s.2.1 s.2.2.1) (toL G1.L) ∧ Below w6.heap.size w6 w' ∧ w6.heap.size ≤ s.2.2.2.1) ?_ ?_
 rotate_left
 ·intro hCont
  refine two_ (i := 4) (j := 9) (Ni := some 108) (Nj := some 15) (tb 12 31) (tb 12 527) rfl rfl rfl rfl (by kernel_rfl) (by decide) (by decide) (fun K hK => ?_) (fun K hK => ?_)
  ·skip
   refine gO Tryz.func37 #[.slice Ac l1.length cc] ?_
   with_reducible refine (of_any (Kd.C_below HC.out.1 bE) HC.out.2 HL1.out.2 HL1.out.1).mono ?_
   rintro e wb1 ⟨A4, c4, rfl, hc4, hF4, hb⟩
   refine ⟨_, rfl, ?_⟩
   have Qb1 := aS (QO.below (Q5'.out.below (below_drew (Below.refl _ _))) hb)
   have Hb := aS (And.intro hc4 hF4)
   have Bb1 := aS (show Below w6.heap.size w6 wb1 from below_step bE hb)
   clear hb hc4 hF4
   obtain ⟨a0, a1, a2, a3, a4, a5, a6, a7, a8, a9, a10, a11, a12, a13, a14, a15⟩ := acells (Qb1.out.bx (g5, actB a Al Nl cl) (by simp)).1
   obtain ⟨y0, y1, y2⟩ := gcells (Qb1.out.bx (g4, gB (.slice A N c) G) (by simp)).1
   refine hK.out _ _ ⟨y0, y1, y2, a1⟩ (fun hHeld => ?_)
   clear hK K
   refine nm ?_
   refine two_ (i := 5) (j := 9) (Ni := some 109) (Nj := some 15) (tb 12 63) (tb 12 543) rfl rfl rfl rfl (by kernel_rfl) (by decide) (by decide) (fun K hK => ?_) (fun K hK => ?_)
   ·skip
    refine gO Tryz.func36 #[gV (.slice A N c) G, .int .i64 a.r, .slice A4 l1.length c4] ?_
    with_reducible refine (rgLay_any HK.out (HR.out.wr Qb1.out.wr (fun k hk => HN.out k hk.1)) a.r l1 HL1.out.1 HL1.out.2 Hb.out.1 (Kd.F_below Hb.out.2 bE)).mono ?_
    rintro e wc2 ⟨v6, rfl, hd6, hb6⟩
    refine ⟨_, rfl, ?_⟩
    rw [HG1.out] at hd6 ⊢
    obtain ⟨A6, M6, d6, rfl⟩ := RD.slice hd6
    have Qc2 := aS (QO.below Qb1.out hb6)
    have Dc3 := aS (hd6.bound.mono (ok' := fun k => ((okr k ∧ k < w.heap.size) ∨ w6.heap.size ≤ k) ∧ k ≠ wc2.heap.size) (fun k hk => ⟨hk.1.imp id (fun e => Nat.le_trans Bb1.out.size e), fun e => by have := hk.2; omega⟩))
    have Bc2 := aS (show Below w6.heap.size w6 wc2 from below_step Bb1.out hb6)
    obtain ⟨a0, a1, a2, a3, a4, a5, a6, a7, a8, a9, a10, a11, a12, a13, a14, a15⟩ := acells (Qc2.out.bx (g5, actB a Al Nl cl) (by simp)).1
    obtain ⟨y0, y1, y2⟩ := gcells (Qc2.out.bx (g4, gB (.slice A N c) G) (by simp)).1
    refine hK.out _ _ ⟨y0, y1, y2, a1⟩ (fun hHeld => ?_)
    clear hK K
    refine nm ?_
    refine tP 6 (some 103) (tb 12 127) ?_
    refine tP 7 (some 110) (tb 12 255) ?_
    refine tP 8 (some 111) (tb 12 511) ?_
    refine sO 9 (some 15) (tb 12 1023) (fun K hK => ?_)
    refine value_ (w1 := ?_) (v := ?_) (by rfl) rfl ?_ ?_
    rotate_left 2
    ·go_simp
     constructor
     ·rfl
     ·rfl
    have Qc3 := aS (show QO O O w (wc2.alloc gZ) g G ((wc2.heap.size, gZ) :: [(g9, penR4 a.p0 a.p1 a.p2), (g7, gZ), (g5, actB a Al Nl cl), (g4, gB (.slice A N c) G)]) from QO.box Qc2.out (by first | exact blk_new _ _ | (have := blk_new (wc2) gZ; simpa using this)) (by first | rfl | (simp; done)) (below_alloc (Below.refl _ _) _))
    obtain ⟨a0, a1, a2, a3, a4, a5, a6, a7, a8, a9, a10, a11, a12, a13, a14, a15⟩ := acells (Qc3.out.bx (g5, actB a Al Nl cl) (by simp)).1
    obtain ⟨y0, y1, y2⟩ := gcells (Qc3.out.bx (g4, gB (.slice A N c) G) (by simp)).1
    refine hK.out _ _ ⟨y0, y1, y2, a1⟩ (fun hHeld => ?_)
    clear hK K
    refine nm ?_
    exact norm_ (by simp only [putAll, Act.put, List.setIfInBounds_toArray, List.set_cons_zero, List.set_cons_succ]) (hCont (A6, M6, d6, wc2.heap.size, A4, c4) _ ⟨Qc3.out, Dc3.out.below (below_alloc (Below.refl _ _) _), below_alloc Bc2.out _, Bc2.out.size⟩)
   ·skip
    refine value_ (w1 := ?_) (v := ?_) (by rfl) rfl ?_ ?_
    rotate_left 2
    ·go_simp
     constructor
     ·rfl
     ·rfl
    have Qb2 := aS (show QO O O w (wb1.alloc gZ) g G ((wb1.heap.size, gZ) :: [(g9, penR4 a.p0 a.p1 a.p2), (g7, gZ), (g5, actB a Al Nl cl), (g4, gB (.slice A N c) G)]) from QO.box Qb1.out (by first | exact blk_new _ _ | (have := blk_new (wb1) gZ; simpa using this)) (by first | rfl | (simp; done)) (below_alloc (Below.refl _ _) _))
    obtain ⟨a0, a1, a2, a3, a4, a5, a6, a7, a8, a9, a10, a11, a12, a13, a14, a15⟩ := acells (Qb2.out.bx (g5, actB a Al Nl cl) (by simp)).1
    obtain ⟨y0, y1, y2⟩ := gcells (Qb2.out.bx (g4, gB (.slice A N c) G) (by simp)).1
    refine hK.out _ _ ⟨y0, y1, y2, a1⟩ (fun hHeld => ?_)
    clear hK K
    refine nm ?_
    refine sO 5 (some 109) (tb 12 575) (fun K hK => ?_)
    refine gO Tryz.func36 #[gV (.slice A N c) G, .int .i64 a.r, .slice A4 l1.length c4] ?_
    with_reducible refine (rgLay_any HK.out (HR.out.wr Qb2.out.wr (fun k hk => HN.out k hk.1)) a.r l1 HL1.out.1 HL1.out.2 Hb.out.1 (Kd.F_below Hb.out.2 bE)).mono ?_
    rintro e wb3 ⟨v6, rfl, hd6, hb6⟩
    refine ⟨_, rfl, ?_⟩
    rw [HG1.out] at hd6 ⊢
    obtain ⟨A6, M6, d6, rfl⟩ := RD.slice hd6
    have Qb3 := aS (QO.below Qb2.out hb6)
    have Db3 := aS (show RD kRL wb3 (fun k => ((okr k ∧ k < w.heap.size) ∨ w6.heap.size ≤ k) ∧ k ≠ wb1.heap.size) (.slice A6 M6 d6) (toL G1.L) from hd6.mono (fun k hk => ⟨hk.imp id (fun e => Nat.le_trans (below_alloc Bb1.out gZ).size e), fun e => by subst e; exact hk.elim (fun h => Nat.lt_irrefl _ (Nat.lt_of_lt_of_le h.2 (Qb2.out.bx (wb1.heap.size, gZ) (by simp)).2.1)) (fun h => Nat.lt_irrefl _ (Nat.lt_of_lt_of_le (blk_lt (Qb2.out.bx (wb1.heap.size, gZ) (by simp)).1) h))⟩))
    have Bb3 := aS (show Below w6.heap.size w6 wb3 from below_step (below_alloc Bb1.out gZ) hb6)
    obtain ⟨a0, a1, a2, a3, a4, a5, a6, a7, a8, a9, a10, a11, a12, a13, a14, a15⟩ := acells (Qb3.out.bx (g5, actB a Al Nl cl) (by simp)).1
    obtain ⟨y0, y1, y2⟩ := gcells (Qb3.out.bx (g4, gB (.slice A N c) G) (by simp)).1
    refine hK.out _ _ ⟨y0, y1, y2, a1⟩ (fun hHeld => ?_)
    clear hK K
    refine nm ?_
    refine tP 6 (some 103) (tb 12 639) ?_
    refine tP 7 (some 110) (tb 12 767) ?_
    refine tP 8 (some 111) (tb 12 1023) ?_
    exact norm_ (by simp only [putAll, Act.put, List.setIfInBounds_toArray, List.set_cons_zero, List.set_cons_succ]) (hCont (A6, M6, d6, wb1.heap.size, A4, c4) _ ⟨Qb3.out, Db3.out, Bb3.out, Bb1.out.size⟩)
  ·skip
   refine value_ (w1 := ?_) (v := ?_) (by rfl) rfl ?_ ?_
   rotate_left 2
   ·go_simp
    constructor
    ·rfl
    ·rfl
   have Qa1 := aS (show QO O O w (w6.drew.alloc gZ) g G ((w6.heap.size, gZ) :: [(g9, penR4 a.p0 a.p1 a.p2), (g7, gZ), (g5, actB a Al Nl cl), (g4, gB (.slice A N c) G)]) from QO.box (Q5'.out.below (below_drew (Below.refl _ _))) (by first | exact blk_new _ _ | (have := blk_new (w6.drew) gZ; simpa using this)) (by first | rfl | (simp; done)) (below_alloc (Below.refl _ _) _))
   obtain ⟨a0, a1, a2, a3, a4, a5, a6, a7, a8, a9, a10, a11, a12, a13, a14, a15⟩ := acells (Qa1.out.bx (g5, actB a Al Nl cl) (by simp)).1
   obtain ⟨y0, y1, y2⟩ := gcells (Qa1.out.bx (g4, gB (.slice A N c) G) (by simp)).1
   refine hK.out _ _ ⟨y0, y1, y2, a1⟩ (fun hHeld => ?_)
   clear hK K
   refine nm ?_
   refine sO 4 (some 108) (tb 12 543) (fun K hK => ?_)
   refine gO Tryz.func37 #[.slice Ac l1.length cc] ?_
   with_reducible refine (of_any (Kd.C_below HC.out.1 bE) HC.out.2 HL1.out.2 HL1.out.1).mono ?_
   rintro e wa2 ⟨A4, c4, rfl, hc4, hF4, hb⟩
   refine ⟨_, rfl, ?_⟩
   have Qa2 := aS (QO.below Qa1.out hb)
   have Ha := aS (And.intro hc4 hF4)
   have Ba2 := aS (show Below w6.heap.size w6 wa2 from below_step bE hb)
   clear hb hc4 hF4
   obtain ⟨a0, a1, a2, a3, a4, a5, a6, a7, a8, a9, a10, a11, a12, a13, a14, a15⟩ := acells (Qa2.out.bx (g5, actB a Al Nl cl) (by simp)).1
   obtain ⟨y0, y1, y2⟩ := gcells (Qa2.out.bx (g4, gB (.slice A N c) G) (by simp)).1
   refine hK.out _ _ ⟨y0, y1, y2, a1⟩ (fun hHeld => ?_)
   clear hK K
   refine nm ?_
   refine sO 5 (some 109) (tb 12 575) (fun K hK => ?_)
   refine gO Tryz.func36 #[gV (.slice A N c) G, .int .i64 a.r, .slice A4 l1.length c4] ?_
   with_reducible refine (rgLay_any HK.out (HR.out.wr Qa2.out.wr (fun k hk => HN.out k hk.1)) a.r l1 HL1.out.1 HL1.out.2 Ha.out.1 (Kd.F_below Ha.out.2 bE)).mono ?_
   rintro e wa3 ⟨v6, rfl, hd6, hb6⟩
   refine ⟨_, rfl, ?_⟩
   rw [HG1.out] at hd6 ⊢
   obtain ⟨A6, M6, d6, rfl⟩ := RD.slice hd6
   have Qa3 := aS (QO.below Qa2.out hb6)
   have Da3 := aS (show RD kRL wa3 (fun k => ((okr k ∧ k < w.heap.size) ∨ w6.heap.size ≤ k) ∧ k ≠ w6.heap.size) (.slice A6 M6 d6) (toL G1.L) from hd6.mono (fun k hk => ⟨hk.imp id (fun e => Nat.le_trans Ba2.out.size e), fun e => by subst e; exact hk.elim (fun h => Nat.lt_irrefl _ (Nat.lt_of_lt_of_le h.2 (Qa2.out.bx (w6.heap.size, gZ) (by simp)).2.1)) (fun h => Nat.lt_irrefl _ (Nat.lt_of_lt_of_le (blk_lt (Qa2.out.bx (w6.heap.size, gZ) (by simp)).1) h))⟩))
   have Ba3 := aS (show Below w6.heap.size w6 wa3 from below_step Ba2.out hb6)
   obtain ⟨a0, a1, a2, a3, a4, a5, a6, a7, a8, a9, a10, a11, a12, a13, a14, a15⟩ := acells (Qa3.out.bx (g5, actB a Al Nl cl) (by simp)).1
   obtain ⟨y0, y1, y2⟩ := gcells (Qa3.out.bx (g4, gB (.slice A N c) G) (by simp)).1
   refine hK.out _ _ ⟨y0, y1, y2, a1⟩ (fun hHeld => ?_)
   clear hK K
   refine nm ?_
   refine tP 6 (some 103) (tb 12 639) ?_
   refine tP 7 (some 110) (tb 12 767) ?_
   refine tP 8 (some 111) (tb 12 1023) ?_
   exact norm_ (by simp only [putAll, Act.put, List.setIfInBounds_toArray, List.set_cons_zero, List.set_cons_succ]) (hCont (A6, M6, d6, w6.heap.size, A4, c4) _ ⟨Qa3.out, Da3.out, Ba3.out, Nat.le_refl _⟩)
 rintro ⟨A6, M6, d6, g15, A4, c4⟩ w7 ⟨hq, hd, hbb, hgg⟩
 dsimp only at hq hd hgg
 have Q7 := aS hq
 have D7 := aS hd
 have B7 := aS (And.intro hbb hgg)
 clear hq hd hbb hgg
 obtain ⟨a0, a1, a2, a3, a4, a5, a6, a7, a8, a9, a10, a11, a12, a13, a14, a15⟩ := acells (Q7.out.bx (g5, actB a Al Nl cl) (by simp)).1
 obtain ⟨y0, y1, y2⟩ := gcells (Q7.out.bx (g4, gB (.slice A N c) G) (by simp)).1
 have hHeld := (And.intro y0 (And.intro y1 (And.intro y2 a1)))
 refine norm_ (a' := ?_) ?_ ?_
 rotate_left
 ·simp only [putAll, Act.put, List.setIfInBounds_toArray, List.set_cons_zero, List.set_cons_succ]
  rfl
 refine last_ (i := 10) (N := none) (tb 12 2047) rfl rfl (by kernel_rfl) (by decide) (fun K hK => ?_)
 refine whole_step (cs' := #[.slice A6 M6 d6, .int .i64 G1.row, .int .i64 G1.col]) (by rfl) (.tmp 15) (.tmp 110) rfl rfl (by rfl) (by rfl) ((Q7.out.below bE).bx (g15, gZ) (by simp)).1 rfl (by kernel_rfl) (by simp [Value.oneCell']; done) ?_
 intro w8 hx_ hg_
 have Q8 := aS (And.intro (QO.store (l1 := []) (l2 := [(g9, penR4 a.p0 a.p1 a.p2), (g7, gZ), (g5, actB a Al Nl cl), (g4, gB (.slice A N c) G)]) (o' := gB (.slice A6 M6 d6) G1) (Q7.out.below bE) hx_ hg_) hg_)
 have D8 := aS (((D7.out.below bE).wrg hg_ (fun k hk => hk.2)).bound.mono (ok' := fun k => ((okr k ∧ k < w.heap.size) ∨ w6.heap.size ≤ k) ∧ k < w8.heap.size) (fun k hk => ⟨hk.1.1, hk.2⟩))
 have B8 := aS (show Below w6.heap.size w6 w8 from (below_then B7.out.1 B7.out.1.size bE).grown hg_ B7.out.1.size (fun k hk => by injection hk with hk; subst hk; exact B7.out.2))
 clear hx_ hg_
 refine hK.out _ _ ?_
 clear hK K
 refine tP 11 (some 16) (tb 12 4095) ?_
 refine done_ (by kernel_rfl) ?_
 obtain ⟨z0, z1, z2⟩ := gcells (Q8.out.1.bx (g15, gB (.slice A6 M6 d6) G1) (by simp)).1
 obtain ⟨a0, a1, a2, a3, a4, a5, a6, a7, a8, a9, a10, a11, a12, a13, a14, a15⟩ := acells (Q8.out.1.bx (g5, actB a Al Nl cl) (by simp)).1
 have S8 := aS (Nat.le_refl w8.heap.size)
 have HX := aS (show ∀ k, ((okr k ∧ k < w.heap.size) ∨ w6.heap.size ≤ k) ∧ k < w8.heap.size → ¬ O k from fun k hk ho => hk.1.elim (fun h => HN.out k h.1 ho) (fun h => by have := HS.out.ob k ho; have := Q5'.out.wr.size; omega))
 have H7 := aS (show w.heap.size ≤ g7 ∧ g7 < w6.heap.size from ⟨(Q5'.out.bx (g7, gZ) (by simp)).2.1, blk_lt (Q5'.out.bx (g7, gZ) (by simp)).1⟩)
 go_wp2
 refine start_ (n := 12) (S := fun w' => w'.cell? ⟨g15, 0, none⟩ = some (.slice A6 M6 d6) ∧ w'.cell? ⟨g15, 1, none⟩ = some (.int .i64 G1.row) ∧ w'.cell? ⟨g15, 2, none⟩ = some (.int .i64 G1.col) ∧ w'.cell? ⟨g5, 1, none⟩ = some (.int .i64 a.r)) (ds := [10]) (tb 12 0) (by kernel_rfl) rfl rfl ⟨z0, z1, z2, a1⟩ (fun hHeld => ?_)
 refine tP 0 (some 112) (tb 12 1) ?_
 refine tP 2 (some 114) (tb 12 5) ?_
 refine tP 3 (some 115) (tb 12 13) ?_
 refine tP 5 (some 117) (tb 12 45) ?_
 refine tP 7 (some 119) (tb 12 173) ?_
 refine tK 1 (some 113) (tb 12 175) ?_
 refine tK 4 (some 116) (tb 12 191) ?_
 refine sO 6 (some 118) (tb 12 255) (fun K hK => ?_)
 refine gO Tryz.func38 #[.pointer (some ⟨g, 0, none⟩), .int .i64 a.r, .slice Ac l1.length cc] ?_
 with_reducible refine (Lay_any (Q8.out.1.below bE).gr a.r (Kd.C_below HC.out.1 (below_then B8.out B8.out.size bE)) HC.out.2 HL1.out.1 HL1.out.2).mono ?_
 rintro e w9 ⟨rfl, hd⟩
 refine ⟨_, rfl, ?_⟩
 rw [HG1.out] at hd ⊢
 obtain ⟨O9, hs9, q9, hr9⟩ := Q8.out.1.did' bE S8.out hd
 have Q9 := aS (And.intro q9 (And.intro (hr9 _ _ _ D8.out HX.out) hs9))
 clear hd hs9 q9 hr9
 obtain ⟨z0, z1, z2⟩ := gcells (Q9.out.1.bx (g15, gB (.slice A6 M6 d6) G1) (by simp)).1
 obtain ⟨a0, a1, a2, a3, a4, a5, a6, a7, a8, a9, a10, a11, a12, a13, a14, a15⟩ := acells (Q9.out.1.bx (g5, actB a Al Nl cl) (by simp)).1
 refine hK.out _ _ ⟨z0, z1, z2, a1⟩ (fun hHeld => ?_)
 clear hK K
 refine nm ?_
 refine tP 8 (some 120) (tb 12 511) ?_
 refine tP 9 (some 6) (tb 12 1023) ?_
 refine last_ (i := 10) (N := none) (tb 12 2047) rfl rfl (by kernel_rfl) (by decide) (fun K hK => ?_)
 refine whole_step (cs' := #[.slice A6 M6 d6, .int .i64 G1.row, .int .i64 G1.col]) (by rfl) (.tmp 7) (.tmp 113) rfl rfl (by rfl) (by rfl) ((Q9.out.1.below bE).bx (g7, gZ) (by simp)).1 rfl (by kernel_rfl) (by simp [Value.oneCell']; done) ?_
 intro w10 hx_ hg_
 have Q10 := aS (And.intro (QO.store (l1 := [(g15, gB (.slice A6 M6 d6) G1), (g9, penR4 a.p0 a.p1 a.p2)]) (l2 := [(g5, actB a Al Nl cl), (g4, gB (.slice A N c) G)]) (o' := gB (.slice A6 M6 d6) G1) (Q9.out.1.below bE) hx_ hg_) hg_)
 have D10 := aS (RD.fin3 (Q9.out.2.1.below bE) hg_ H7.out.1 H7.out.2 Q5'.out.wr.size HS.out.ob Q9.out.2.2 HN.out)
 clear hx_ hg_
 refine hK.out _ _ ?_
 clear hK K
 refine tP 11 (some 8) (tb 12 4095) ?_
 refine done_ (by kernel_rfl) ?_
 all_goals go_wp2
 all_goals refine bodyPost_ret (results_tct rfl _ _ g7 32 _ (0, 0) _ rfl (Q10.out.1.bx (g7, gB (.slice A6 M6 d6) G1) (by simp)).1 Tryz.underlying32 rfl rfl) (by rfl) ?_
 all_goals exact ⟨g, _, O9, rfl, Q10.out.1.gr.below bE, Q10.out.1.sub, Q10.out.1.wr.then_ bE, D10.out.below bE⟩
end Go.Proofs.YtblcmcdifgclcaaGreat.Grd
