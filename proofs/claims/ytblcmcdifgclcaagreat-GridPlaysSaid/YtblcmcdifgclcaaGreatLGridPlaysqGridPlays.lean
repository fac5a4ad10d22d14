/- GridPlays: what its proof leads to. No condition. -/
import Derived.Test.YtblcmcdifgclcaaGreatRows
import Derived.ProofKit
import Derived.OpenShut
import Derived.Test.YtblcmcdifgclcaaGreatG6qGridPlays
import Derived.Test.YtblcmcdifgclcaaGreatG23qGridPlays
import Derived.Test.YtblcmcdifgclcaaGreatG24qGridPlays
import Derived.Test.YtblcmcdifgclcaaGreatG26qGridPlays
import Derived.Test.YtblcmcdifgclcaaGreatG27qGridPlays
import Derived.Test.YtblcmcdifgclcaaGreatG32qGridPlays
import Derived.Test.YtblcmcdifgclcaaGreatG33qGridPlays
import Derived.Test.YtblcmcdifgclcaaGreatG34qGridPlays
import Derived.Test.YtblcmcdifgclcaaGreatG35qGridPlays
import Derived.Test.YtblcmcdifgclcaaGreatG36qGridPlays
import Derived.Test.YtblcmcdifgclcaaGreatG37qGridPlays
import Derived.Test.YtblcmcdifgclcaaGreatG39qGridPlays
import Derived.Test.YtblcmcdifgclcaaGreatG40qGridPlays
import Derived.Test.YtblcmcdifgclcaaGreatG41qGridPlays
import Derived.Test.YtblcmcdifgclcaaGreatG44qGridPlays
import Derived.Test.YtblcmcdifgclcaaGreatG47qGridPlays
import Derived.Test.YtblcmcdifgclcaaGreatG48qGridPlays
import Derived.Test.YtblcmcdifgclcaaGreatG49qGridPlays
namespace Go.Proofs.YtblcmcdifgclcaaGreat.Grd
open Go.ChangeShapes Go.WideShapes Go.ChangeAt Go.RowKit Go.Proofs.YtblcmcdifgclcaaGreat Go.Proofs.YtblcmcdifgclcaaGreat.PGridPlays Go.Proofs.YtblcmcdifgclcaaGreatW.PrintWords Go.Proofs.YtblcmcdifgclcaaGreatW.PrintLast Go.Proofs.YtblcmcdifgclcaaGreatW.PrintMore
set_option linter.unusedVariables false
set_option linter.unusedSimpArgs false
attribute [local go_sem] isSome_setCell max2_int min2_int max_two min_two
attribute [local go_sem high] eqA52
theorem rbcells {W : World} {b : Nat} {x : CS} (h : W.heap[b]? = some (refB x)) : W.cell? ⟨b, 0, none⟩ = some (.int .i64 x.f0) ∧ W.cell? ⟨b, 1, none⟩ = some (.int .i64 x.f1.f0) ∧ W.cell? ⟨b, 2, none⟩ = some (.int .i64 x.f1.f1) ∧ W.cell? ⟨b, 3, none⟩ = some (.int .u8 x.f2) ∧ W.cell? ⟨b, 4, none⟩ = some (.int .u8 x.f3.f0) ∧ W.cell? ⟨b, 5, none⟩ = some (.int .u8 x.f3.f1) ∧ W.cell? ⟨b, 6, none⟩ = some (.int .u8 x.f3.f2) := ⟨(blk_cell h 0).trans rfl, (blk_cell h 1).trans rfl, (blk_cell h 2).trans rfl, (blk_cell h 3).trans rfl, (blk_cell h 4).trans rfl, (blk_cell h 5).trans rfl, (blk_cell h 6).trans rfl⟩
set_option maxRecDepth 100000 in
set_option maxHeartbeats 4000000 in
theorem walk_GridPlays (r c : Int) (A : Option Addr) (c1 : Nat) (acts : List TAct) (rr cc : Int) (w : World) (hr : (Lit.int .i64 r).wf = true) (hc : (Lit.int .i64 c).wf = true) (hC1 : Kd.C kdAct w A acts.length acts) (hc1 : acts.length ≤ c1) (hq1 : ∀ x ∈ acts, wfAct x) (hrr : (Lit.int .i64 rr).wf = true) (hcc : (Lit.int .i64 cc).wf = true) :
 Calls Tryz.prog 3 #[.int .i64 r, .int .i64 c, .slice A acts.length c1, .int .i64 rr, .int .i64 cc] w fun e w' => e = .returned (.bool true) ∧ Below w.heap.size w w' := by
 clear hr hc hrr hcc
 obtain ⟨sr, hsr⟩ : ∃ s, smallV r = s := ⟨_, rfl⟩
 obtain ⟨sc, hsc⟩ : ∃ s, smallV c = s := ⟨_, rfl⟩
 have HSR := aS (show prolepsislaw07_small.f r = some sr by rw [small_ok, hsr])
 have HSC := aS (show prolepsislaw07_small.f c = some sc by rw [small_ok, hsc])
 clear hsr hsc
 obtain ⟨N1, hN1⟩ : ∃ n, acts.length = n := ⟨_, rfl⟩
 rw [hN1] at hC1 hc1 ⊢
 have HN1 := aS hN1
 have HC1 := aS hC1
 have HQ1 := aS hq1
 clear hN1 hC1 hq1 hc1
 by_cases hz : gSize sr sc = true
 ·have HZ := aS hz
  clear hz
  obtain ⟨G0, hG0⟩ : ∃ G, gNew sr sc = G := ⟨_, rfl⟩
  have HG0 := aS hG0
  clear hG0
  go_enter Tryz.func3, Tryz.ntmps3
  go_wp2_with (first | (go_at_call 4; (with_reducible refine (prolepsislaw07_small.calls r sr w HSR.out).mono ?_); rintro e w2 ⟨rfl, hd⟩; have D2 := aS hd.below; clear hd) | (go_at_call 4; (with_reducible refine (prolepsislaw07_small.calls c sc w2 HSC.out).mono ?_); rintro e w3 ⟨rfl, hd⟩; have H3 := aS (below_step D2.out hd.below); clear hd) | (go_at_call 5; (with_reducible refine (New_any sr sc HZ.out w3).mono ?_); rintro e w4 ⟨ga, rfl, hF⟩; rw [HG0.out] at hF; have F4 := aS hF; clear hF) | (go_at_call 6; go_must (refine (prolepsisref07_Size.calls sr sc _ w4 (rsize_ok sr sc)).mono ?_); rintro e w4b ⟨rfl, hd⟩; rw [HZ.out]; have D4 := aS hd.below; clear hd) | (go_at_call 8; (with_reducible refine (rgNew_any sr sc HZ.out w4b).mono ?_); rintro e w5 ⟨b5, cap5, M5, rfl, -, hG5, hb⟩; rw [HG0.out] at hG5 ⊢; have F5 := aS (And.intro hG5 hb); clear hG5 hb) | (refine bx 13 #[.slice none 0 0, .int .i64 0, .int .i64 0] 32 ?_; intro b13 hg_ w6 hx_ hb_; have E6 := aS (And.intro hg_ (And.intro hb_ hx_)); clear hg_ hx_ hb_) | ((with_reducible refine gate_store (t := 32) (p := 13) rfl ?_); go_must (refine step_whole (.tmp 13) (.tmp 53) rfl rfl rfl rfl rfl (E6.out.2.2) rfl (by kernel_rfl) (by simp [Value.oneCell']; done) ?_); intro w7 hx_ hg_; have E7 := aS (And.intro hg_ hx_); clear hx_ hg_))
  obtain ⟨O1, hO1⟩ : ∃ O : Nat → Prop, O = (fun k => w3.heap.size ≤ k ∧ k < w4.heap.size) := ⟨_, rfl⟩
  obtain ⟨d1, hd1⟩ : ∃ O : Nat → Prop, O = (fun k => w4b.heap.size ≤ k ∧ k < w5.heap.size) := ⟨_, rfl⟩
  have HT0 := aS (show PB w w7 O1 d1 ga G0 (.slice (some ⟨b5, 0, none⟩) M5 cap5) [(b13, gB (.slice (some ⟨b5, 0, none⟩) M5 cap5) G0)] from by
   have s3 := H3.out.size
   have B6 : Below w5.heap.size w5 w6 := E6.out.2.1
   have C4 := below_step H3.out F4.out.2
   have C4b := below_step C4 D4.out
   have C5 := below_step C4b F5.out.2
   subst hO1 hd1
   have p5 : PL w w5 _ _ ga G0 (.slice (some ⟨b5, 0, none⟩) M5 cap5) := (PL.new F4.out F5.out.1 D4.out F5.out.2).more s3
   have q5 : PB w w5 _ _ ga G0 (.slice (some ⟨b5, 0, none⟩) M5 cap5) [] := ⟨C5, p5, fun _ h => absurd h List.not_mem_nil, List.nodup_nil⟩
   exact PB.store (l1 := []) (l2 := []) (q5.box E6.out.2.2 E6.out.1 B6) E7.out.2 E7.out.1)
  clear D2 H3 F4 D4 F5 E6 E7 hO1 hd1
  go_loopg [11, 14] 41 (fun kq v11 v14 w' => ∃ (i g : Nat) (G : GV) (v : Value) (O d : Nat → Prop), v11 = .pointer (some ⟨g, 0, none⟩) ∧ v14 = .int .i64 i ∧ Aside0 (kq = 41 - i ∧ i ≤ 40) ∧ Aside0 (PB w w' O d g G v [(b13, gB v G)]))
  case atStart => exact ⟨0, ga, G0, _, O1, d1, rfl, by go_num, ⟨by omega, by omega⟩, HT0⟩
  case round =>
   clear HT0
   obtain ⟨i, g, G, v, O, d, rfl, rfl, HK, HT⟩ := hrel
   by_cases hh : i < N1 ∧ i < 40
   ·obtain ⟨hi, h4⟩ := hh
    have hT1 : decide (i < N1) = true := decide_eq_true hi
    have hT1' : decide ((i : Int) < (N1 : Int)) = true := decide_eq_true (by omega)
    have hT2 : decide (i < 40) = true := decide_eq_true h4
    have hT2' : decide ((i : Int) < 40) = true := decide_eq_true (by omega)
    have hw1 : wrap64 ((i : Int) + 1) = ((i + 1 : Nat) : Int) := by rw [w64 (by omega) (by omega)]; omega
    obtain ⟨Av, Nv, cv, rfl⟩ := RD.slice HT.out.p.rd
    obtain ⟨x, hx⟩ : ∃ x, acts[i]? = some x := ⟨_, List.getElem?_eq_getElem (by rw [HN1.out]; exact hi)⟩
    have ha := aw_of (HQ1.out x (List.mem_of_getElem? hx))
    obtain ⟨ad, Al, cl, rfl, ⟨hcl, hCl⟩, x0, x1, x2, x3, x4, x5, x6, x7, x8, x9, x10, x11, x12, x13, x14, x15⟩ := at_Act HC1.out i x hx
    clear hx
    obtain ⟨a, hta⟩ : ∃ a, toA x = a := ⟨_, rfl⟩
    rw [hta] at ha hcl hCl x0 x1 x2 x3 x4 x5 x6 x7 x8 x9 x10 x11 x12 x13 x14 x15
    clear hta
    obtain ⟨n, hn⟩ : ∃ n, a.l.length = n := ⟨_, rfl⟩
    rw [hn] at hcl hCl x15
    have HA := aS (And.intro ha (And.intro hn.symm (And.intro hcl hCl)))
    clear ha hn hcl hCl
    have HX := aS (And.intro x0 ((And.intro x1 (And.intro x2 (And.intro x3 (And.intro x4 (And.intro x5 (And.intro x6 (And.intro x7 (And.intro x8 (And.intro x9 (And.intro x10 (And.intro x11 (And.intro x12 (And.intro x13 (And.intro x14 x15))))))))))))))))
    replace x0 := (HT.out.bel.cell (World.block_lt_of_cell? w _ x0)).trans x0
    replace x1 := (HT.out.bel.cell (World.block_lt_of_cell? w _ x1)).trans x1
    replace x2 := (HT.out.bel.cell (World.block_lt_of_cell? w _ x2)).trans x2
    replace x3 := (HT.out.bel.cell (World.block_lt_of_cell? w _ x3)).trans x3
    replace x4 := (HT.out.bel.cell (World.block_lt_of_cell? w _ x4)).trans x4
    replace x5 := (HT.out.bel.cell (World.block_lt_of_cell? w _ x5)).trans x5
    replace x6 := (HT.out.bel.cell (World.block_lt_of_cell? w _ x6)).trans x6
    replace x7 := (HT.out.bel.cell (World.block_lt_of_cell? w _ x7)).trans x7
    replace x8 := (HT.out.bel.cell (World.block_lt_of_cell? w _ x8)).trans x8
    replace x9 := (HT.out.bel.cell (World.block_lt_of_cell? w _ x9)).trans x9
    replace x10 := (HT.out.bel.cell (World.block_lt_of_cell? w _ x10)).trans x10
    replace x11 := (HT.out.bel.cell (World.block_lt_of_cell? w _ x11)).trans x11
    replace x12 := (HT.out.bel.cell (World.block_lt_of_cell? w _ x12)).trans x12
    replace x13 := (HT.out.bel.cell (World.block_lt_of_cell? w _ x13)).trans x13
    replace x14 := (HT.out.bel.cell (World.block_lt_of_cell? w _ x14)).trans x14
    replace x15 := (HT.out.bel.cell (World.block_lt_of_cell? w _ x15)).trans x15
    obtain ⟨y0, y1, y2⟩ := gcells (HT.out.bx _ List.mem_cons_self).1
    obtain ⟨G1, hG1⟩ : ∃ G1, doV G a = G1 := ⟨_, rfl⟩
    have HG1 := aS hG1
    clear hG1
    go_wp2
    refine start_ (n := 15) (S := fun w' => w'.cell? ⟨b13, 0, none⟩ = some (.slice Av Nv cv) ∧ w'.cell? ⟨b13, 1, none⟩ = some (.int .i64 G.row) ∧ w'.cell? ⟨b13, 2, none⟩ = some (.int .i64 G.col) ∧ w'.cell? (ad.add (i * 16)) = some (.int .i64 a.k) ∧ w'.cell? ⟨(ad.add (i * 16)).block, (ad.add (i * 16)).off + 1, none⟩ = some (.int .i64 a.r) ∧ w'.cell? ⟨(ad.add (i * 16)).block, (ad.add (i * 16)).off + 2, none⟩ = some (.int .i64 a.c) ∧ w'.cell? ⟨(ad.add (i * 16)).block, (ad.add (i * 16)).off + 3, none⟩ = some (.int .i64 a.t) ∧ w'.cell? ⟨(ad.add (i * 16)).block, (ad.add (i * 16)).off + 4, none⟩ = some (.int .i32 a.x.f0) ∧ w'.cell? ⟨(ad.add (i * 16)).block, (ad.add (i * 16)).off + 5, none⟩ = some (.int .i32 a.x.f1.f0) ∧ w'.cell? ⟨(ad.add (i * 16)).block, (ad.add (i * 16)).off + 6, none⟩ = some (.int .i32 a.x.f1.f1) ∧ w'.cell? ⟨(ad.add (i * 16)).block, (ad.add (i * 16)).off + 7, none⟩ = some (.int .u8 a.x.f2) ∧ w'.cell? ⟨(ad.add (i * 16)).block, (ad.add (i * 16)).off + 8, none⟩ = some (.int .u8 a.x.f3.f0) ∧ w'.cell? ⟨(ad.add (i * 16)).block, (ad.add (i * 16)).off + 9, none⟩ = some (.int .u8 a.x.f3.f1) ∧ w'.cell? ⟨(ad.add (i * 16)).block, (ad.add (i * 16)).off + 10, none⟩ = some (.int .u8 a.x.f3.f2) ∧ w'.cell? ⟨(ad.add (i * 16)).block, (ad.add (i * 16)).off + 11, none⟩ = some (.int .i32 a.m) ∧ w'.cell? ⟨(ad.add (i * 16)).block, (ad.add (i * 16)).off + 12, none⟩ = some (.int .u8 a.p0) ∧ w'.cell? ⟨(ad.add (i * 16)).block, (ad.add (i * 16)).off + 13, none⟩ = some (.int .u8 a.p1) ∧ w'.cell? ⟨(ad.add (i * 16)).block, (ad.add (i * 16)).off + 14, none⟩ = some (.int .u8 a.p2) ∧ w'.cell? ⟨(ad.add (i * 16)).block, (ad.add (i * 16)).off + 15, none⟩ = some (.slice Al n cl)) (ds := [13]) (tb 15 0) (by kernel_rfl) rfl rfl ⟨y0, y1, y2, x0, x1, x2, x3, x4, x5, x6, x7, x8, x9, x10, x11, x12, x13, x14, x15⟩ (fun hHeld => ?_)
    refine tP 0 (some 65) (tb 15 1) ?_
    refine tP 2 (some 67) (tb 15 5) ?_
    refine tP 3 (some 68) (tb 15 13) ?_
    refine tP 4 (some 69) (tb 15 29) ?_
    refine tK 1 (some 66) (tb 15 31) ?_
    refine tK 5 (some 70) (tb 15 63) ?_
    refine join_ (σ := Nat × Option Addr × Nat × Nat × Nat) 3 (tb 15 4095) (fun s => [(71, .tuple #[.pointer (some ⟨s.1, 0, none⟩), gV (.slice s.2.1 s.2.2.1 s.2.2.2.1) G1, .bool true]), (16, .pointer (some ⟨s.2.2.2.2, 0, none⟩)), (64, .tuple #[.pointer (some ⟨s.1, 0, none⟩), gV (.slice s.2.1 s.2.2.1 s.2.2.2.1) G1, .bool true]), (72, .pointer (some ⟨s.1, 0, none⟩)), (73, gV (.slice s.2.1 s.2.2.1 s.2.2.2.1) G1), (74, .bool true)]) (fun s w' => ∃ O' d', PB w w' O' d' s.1 G1 (.slice s.2.1 s.2.2.1 s.2.2.2.1) ((s.2.2.2.2, gZ) :: [(b13, gB (.slice Av Nv cv) G)])) ?_ ?_
    rotate_left
    ·intro hCont
     refine two_ (i := 6) (j := 11) (Ni := some 71) (Nj := some 16) (tb 15 127) (tb 15 2111) rfl rfl rfl rfl (by kernel_rfl) (by decide) (by decide) (fun K hK => ?_) (fun K hK => ?_)
     ·skip
      refine gO Tryz.func9 #[.pointer (some ⟨g, 0, none⟩), gV (.slice Av Nv cv) G, actV a Al n cl] ?_
      with_reducible refine (HT.out.do_ bE a HA.out.1 HA.out.2.1 HA.out.2.2.1 HA.out.2.2.2).mono ?_
      rintro e wb1 ⟨g1, A1, M1, d1, Oa, da, rfl, hS⟩
      refine ⟨_, rfl, ?_⟩
      rw [HG1.out] at hS ⊢
      have Qb1 := aS hS
      clear hS
      obtain ⟨y0, y1, y2⟩ := gcells (Qb1.out.bx (b13, gB (.slice Av Nv cv) G) (by simp)).1
      obtain ⟨x0, x1, x2, x3, x4, x5, x6, x7, x8, x9, x10, x11, x12, x13, x14, x15⟩ := HX.out
      replace x0 := (Qb1.out.bel.cell (World.block_lt_of_cell? w _ x0)).trans x0
      replace x1 := (Qb1.out.bel.cell (World.block_lt_of_cell? w _ x1)).trans x1
      replace x2 := (Qb1.out.bel.cell (World.block_lt_of_cell? w _ x2)).trans x2
      replace x3 := (Qb1.out.bel.cell (World.block_lt_of_cell? w _ x3)).trans x3
      replace x4 := (Qb1.out.bel.cell (World.block_lt_of_cell? w _ x4)).trans x4
      replace x5 := (Qb1.out.bel.cell (World.block_lt_of_cell? w _ x5)).trans x5
      replace x6 := (Qb1.out.bel.cell (World.block_lt_of_cell? w _ x6)).trans x6
      replace x7 := (Qb1.out.bel.cell (World.block_lt_of_cell? w _ x7)).trans x7
      replace x8 := (Qb1.out.bel.cell (World.block_lt_of_cell? w _ x8)).trans x8
      replace x9 := (Qb1.out.bel.cell (World.block_lt_of_cell? w _ x9)).trans x9
      replace x10 := (Qb1.out.bel.cell (World.block_lt_of_cell? w _ x10)).trans x10
      replace x11 := (Qb1.out.bel.cell (World.block_lt_of_cell? w _ x11)).trans x11
      replace x12 := (Qb1.out.bel.cell (World.block_lt_of_cell? w _ x12)).trans x12
      replace x13 := (Qb1.out.bel.cell (World.block_lt_of_cell? w _ x13)).trans x13
      replace x14 := (Qb1.out.bel.cell (World.block_lt_of_cell? w _ x14)).trans x14
      replace x15 := (Qb1.out.bel.cell (World.block_lt_of_cell? w _ x15)).trans x15
      refine hK.out _ _ ⟨y0, y1, y2, x0, x1, x2, x3, x4, x5, x6, x7, x8, x9, x10, x11, x12, x13, x14, x15⟩ (fun hHeld => ?_)
      clear hK K
      refine nm ?_
      refine tP 7 (some 64) (tb 15 255) ?_
      refine tP 8 (some 72) (tb 15 511) ?_
      refine tP 9 (some 73) (tb 15 1023) ?_
      refine tP 10 (some 74) (tb 15 2047) ?_
      refine sO 11 (some 16) (tb 15 4095) (fun K hK => ?_)
      refine value_ (w1 := ?_) (v := ?_) (by rfl) rfl ?_ ?_
      rotate_left 2
      ·go_simp
       constructor
       ·rfl
       ·rfl
      have Qb2 := aS (show PB w (wb1.alloc gZ) Oa da g1 G1 (.slice A1 M1 d1) ((wb1.heap.size, gZ) :: [(b13, gB (.slice Av Nv cv) G)]) from PB.box Qb1.out (by first | exact blk_new _ _ | (have := blk_new (wb1) gZ; simpa using this)) (by first | rfl | (simp; done)) (below_alloc (Below.refl _ _) _))
      obtain ⟨y0, y1, y2⟩ := gcells (Qb2.out.bx (b13, gB (.slice Av Nv cv) G) (by simp)).1
      obtain ⟨x0, x1, x2, x3, x4, x5, x6, x7, x8, x9, x10, x11, x12, x13, x14, x15⟩ := HX.out
      replace x0 := (Qb2.out.bel.cell (World.block_lt_of_cell? w _ x0)).trans x0
      replace x1 := (Qb2.out.bel.cell (World.block_lt_of_cell? w _ x1)).trans x1
      replace x2 := (Qb2.out.bel.cell (World.block_lt_of_cell? w _ x2)).trans x2
      replace x3 := (Qb2.out.bel.cell (World.block_lt_of_cell? w _ x3)).trans x3
      replace x4 := (Qb2.out.bel.cell (World.block_lt_of_cell? w _ x4)).trans x4
      replace x5 := (Qb2.out.bel.cell (World.block_lt_of_cell? w _ x5)).trans x5
      replace x6 := (Qb2.out.bel.cell (World.block_lt_of_cell? w _ x6)).trans x6
      replace x7 := (Qb2.out.bel.cell (World.block_lt_of_cell? w _ x7)).trans x7
      replace x8 := (Qb2.out.bel.cell (World.block_lt_of_cell? w _ x8)).trans x8
      replace x9 := (Qb2.out.bel.cell (World.block_lt_of_cell? w _ x9)).trans x9
      replace x10 := (Qb2.out.bel.cell (World.block_lt_of_cell? w _ x10)).trans x10
      replace x11 := (Qb2.out.bel.cell (World.block_lt_of_cell? w _ x11)).trans x11
      replace x12 := (Qb2.out.bel.cell (World.block_lt_of_cell? w _ x12)).trans x12
      replace x13 := (Qb2.out.bel.cell (World.block_lt_of_cell? w _ x13)).trans x13
      replace x14 := (Qb2.out.bel.cell (World.block_lt_of_cell? w _ x14)).trans x14
      replace x15 := (Qb2.out.bel.cell (World.block_lt_of_cell? w _ x15)).trans x15
      refine hK.out _ _ ⟨y0, y1, y2, x0, x1, x2, x3, x4, x5, x6, x7, x8, x9, x10, x11, x12, x13, x14, x15⟩ (fun hHeld => ?_)
      clear hK K
      refine nm ?_
      exact norm_ (by simp only [putAll, Act.put, List.setIfInBounds_toArray, List.set_cons_zero, List.set_cons_succ]) (hCont (g1, A1, M1, d1, wb1.heap.size) _ ⟨Oa, da, Qb2.out⟩)
     ·skip
      refine value_ (w1 := ?_) (v := ?_) (by rfl) rfl ?_ ?_
      rotate_left 2
      ·go_simp
       constructor
       ·rfl
       ·rfl
      have Qa1 := aS (show PB w ((wr.alloc gZ).drew) O d g G (.slice Av Nv cv) ((wr.heap.size, gZ) :: [(b13, gB (.slice Av Nv cv) G)]) from (PB.box HT.out (blk_new _ _) rfl (below_alloc (Below.refl _ _) _)).below (below_drew (Below.refl _ _)))
      obtain ⟨y0, y1, y2⟩ := gcells (Qa1.out.bx (b13, gB (.slice Av Nv cv) G) (by simp)).1
      obtain ⟨x0, x1, x2, x3, x4, x5, x6, x7, x8, x9, x10, x11, x12, x13, x14, x15⟩ := HX.out
      replace x0 := (Qa1.out.bel.cell (World.block_lt_of_cell? w _ x0)).trans x0
      replace x1 := (Qa1.out.bel.cell (World.block_lt_of_cell? w _ x1)).trans x1
      replace x2 := (Qa1.out.bel.cell (World.block_lt_of_cell? w _ x2)).trans x2
      replace x3 := (Qa1.out.bel.cell (World.block_lt_of_cell? w _ x3)).trans x3
      replace x4 := (Qa1.out.bel.cell (World.block_lt_of_cell? w _ x4)).trans x4
      replace x5 := (Qa1.out.bel.cell (World.block_lt_of_cell? w _ x5)).trans x5
      replace x6 := (Qa1.out.bel.cell (World.block_lt_of_cell? w _ x6)).trans x6
      replace x7 := (Qa1.out.bel.cell (World.block_lt_of_cell? w _ x7)).trans x7
      replace x8 := (Qa1.out.bel.cell (World.block_lt_of_cell? w _ x8)).trans x8
      replace x9 := (Qa1.out.bel.cell (World.block_lt_of_cell? w _ x9)).trans x9
      replace x10 := (Qa1.out.bel.cell (World.block_lt_of_cell? w _ x10)).trans x10
      replace x11 := (Qa1.out.bel.cell (World.block_lt_of_cell? w _ x11)).trans x11
      replace x12 := (Qa1.out.bel.cell (World.block_lt_of_cell? w _ x12)).trans x12
      replace x13 := (Qa1.out.bel.cell (World.block_lt_of_cell? w _ x13)).trans x13
      replace x14 := (Qa1.out.bel.cell (World.block_lt_of_cell? w _ x14)).trans x14
      replace x15 := (Qa1.out.bel.cell (World.block_lt_of_cell? w _ x15)).trans x15
      refine hK.out _ _ ⟨y0, y1, y2, x0, x1, x2, x3, x4, x5, x6, x7, x8, x9, x10, x11, x12, x13, x14, x15⟩ (fun hHeld => ?_)
      clear hK K
      refine nm ?_
      refine sO 6 (some 71) (tb 15 2175) (fun K hK => ?_)
      refine gO Tryz.func9 #[.pointer (some ⟨g, 0, none⟩), gV (.slice Av Nv cv) G, actV a Al n cl] ?_
      with_reducible refine (Qa1.out.do_ (Below.refl _ _) a HA.out.1 HA.out.2.1 HA.out.2.2.1 HA.out.2.2.2).mono ?_
      rintro e wa2 ⟨g1, A1, M1, d1, Oa, da, rfl, hS⟩
      refine ⟨_, rfl, ?_⟩
      rw [HG1.out] at hS ⊢
      have Qa2 := aS hS
      clear hS
      obtain ⟨y0, y1, y2⟩ := gcells (Qa2.out.bx (b13, gB (.slice Av Nv cv) G) (by simp)).1
      obtain ⟨x0, x1, x2, x3, x4, x5, x6, x7, x8, x9, x10, x11, x12, x13, x14, x15⟩ := HX.out
      replace x0 := (Qa2.out.bel.cell (World.block_lt_of_cell? w _ x0)).trans x0
      replace x1 := (Qa2.out.bel.cell (World.block_lt_of_cell? w _ x1)).trans x1
      replace x2 := (Qa2.out.bel.cell (World.block_lt_of_cell? w _ x2)).trans x2
      replace x3 := (Qa2.out.bel.cell (World.block_lt_of_cell? w _ x3)).trans x3
      replace x4 := (Qa2.out.bel.cell (World.block_lt_of_cell? w _ x4)).trans x4
      replace x5 := (Qa2.out.bel.cell (World.block_lt_of_cell? w _ x5)).trans x5
      replace x6 := (Qa2.out.bel.cell (World.block_lt_of_cell? w _ x6)).trans x6
      replace x7 := (Qa2.out.bel.cell (World.block_lt_of_cell? w _ x7)).trans x7
      replace x8 := (Qa2.out.bel.cell (World.block_lt_of_cell? w _ x8)).trans x8
      replace x9 := (Qa2.out.bel.cell (World.block_lt_of_cell? w _ x9)).trans x9
      replace x10 := (Qa2.out.bel.cell (World.block_lt_of_cell? w _ x10)).trans x10
      replace x11 := (Qa2.out.bel.cell (World.block_lt_of_cell? w _ x11)).trans x11
      replace x12 := (Qa2.out.bel.cell (World.block_lt_of_cell? w _ x12)).trans x12
      replace x13 := (Qa2.out.bel.cell (World.block_lt_of_cell? w _ x13)).trans x13
      replace x14 := (Qa2.out.bel.cell (World.block_lt_of_cell? w _ x14)).trans x14
      replace x15 := (Qa2.out.bel.cell (World.block_lt_of_cell? w _ x15)).trans x15
      refine hK.out _ _ ⟨y0, y1, y2, x0, x1, x2, x3, x4, x5, x6, x7, x8, x9, x10, x11, x12, x13, x14, x15⟩ (fun hHeld => ?_)
      clear hK K
      refine nm ?_
      refine tP 7 (some 64) (tb 15 2303) ?_
      refine tP 8 (some 72) (tb 15 2559) ?_
      refine tP 9 (some 73) (tb 15 3071) ?_
      refine tP 10 (some 74) (tb 15 4095) ?_
      exact norm_ (by simp only [putAll, Act.put, List.setIfInBounds_toArray, List.set_cons_zero, List.set_cons_succ]) (hCont (g1, A1, M1, d1, wr.heap.size) _ ⟨Oa, da, Qa2.out⟩)
    rintro ⟨g1, A1, M1, d1, b16⟩ w7 ⟨O7, d7, hq⟩
    dsimp only at hq
    have Q7 := aS hq
    clear hq
    obtain ⟨y0, y1, y2⟩ := gcells (Q7.out.bx (b13, gB (.slice Av Nv cv) G) (by simp)).1
    obtain ⟨x0, x1, x2, x3, x4, x5, x6, x7, x8, x9, x10, x11, x12, x13, x14, x15⟩ := HX.out
    replace x0 := (Q7.out.bel.cell (World.block_lt_of_cell? w _ x0)).trans x0
    replace x1 := (Q7.out.bel.cell (World.block_lt_of_cell? w _ x1)).trans x1
    replace x2 := (Q7.out.bel.cell (World.block_lt_of_cell? w _ x2)).trans x2
    replace x3 := (Q7.out.bel.cell (World.block_lt_of_cell? w _ x3)).trans x3
    replace x4 := (Q7.out.bel.cell (World.block_lt_of_cell? w _ x4)).trans x4
    replace x5 := (Q7.out.bel.cell (World.block_lt_of_cell? w _ x5)).trans x5
    replace x6 := (Q7.out.bel.cell (World.block_lt_of_cell? w _ x6)).trans x6
    replace x7 := (Q7.out.bel.cell (World.block_lt_of_cell? w _ x7)).trans x7
    replace x8 := (Q7.out.bel.cell (World.block_lt_of_cell? w _ x8)).trans x8
    replace x9 := (Q7.out.bel.cell (World.block_lt_of_cell? w _ x9)).trans x9
    replace x10 := (Q7.out.bel.cell (World.block_lt_of_cell? w _ x10)).trans x10
    replace x11 := (Q7.out.bel.cell (World.block_lt_of_cell? w _ x11)).trans x11
    replace x12 := (Q7.out.bel.cell (World.block_lt_of_cell? w _ x12)).trans x12
    replace x13 := (Q7.out.bel.cell (World.block_lt_of_cell? w _ x13)).trans x13
    replace x14 := (Q7.out.bel.cell (World.block_lt_of_cell? w _ x14)).trans x14
    replace x15 := (Q7.out.bel.cell (World.block_lt_of_cell? w _ x15)).trans x15
    have hHeld := (And.intro y0 (And.intro y1 (And.intro y2 (And.intro x0 (And.intro x1 (And.intro x2 (And.intro x3 (And.intro x4 (And.intro x5 (And.intro x6 (And.intro x7 (And.intro x8 (And.intro x9 (And.intro x10 (And.intro x11 (And.intro x12 (And.intro x13 (And.intro x14 (x15)))))))))))))))))))
    refine norm_ (a' := ?_) ?_ ?_
    rotate_left
    ·simp only [putAll, Act.put, List.setIfInBounds_toArray, List.set_cons_zero, List.set_cons_succ]
     rfl
    refine tP 12 (some 15) (tb 15 8191) ?_
    refine last_ (i := 13) (N := none) (tb 15 16383) rfl rfl (by kernel_rfl) (by decide) (fun K hK => ?_)
    refine whole_step (cs' := #[.slice A1 M1 d1, .int .i64 G1.row, .int .i64 G1.col]) (by rfl) (.tmp 16) (.tmp 73) rfl rfl (by rfl) (by rfl) ((Q7.out.below bE).bx (b16, gZ) (by simp)).1 rfl (by kernel_rfl) (by simp [Value.oneCell']; done) ?_
    intro w8 hx_ hg_
    have Q8 := aS (PB.store (l1 := []) (l2 := [(b13, gB (.slice Av Nv cv) G)]) (o' := gB (.slice A1 M1 d1) G1) (Q7.out.below bE) hx_ hg_)
    clear hx_ hg_
    refine hK.out _ _ ?_
    clear hK K
    refine tP 14 (some 17) (tb 15 32767) ?_
    refine done_ (by kernel_rfl) ?_
    all_goals clear x0 x1 x2 x3 x4 x5 x6 x7 x8 x9 x10 x11 x12 x13 x14 x15 y0 y1 y2
    all_goals obtain ⟨z0, z1, z2⟩ := gcells (Q8.out.bx (b16, gB (.slice A1 M1 d1) G1) (by simp)).1
    all_goals go_wp2
    refine start_ (n := 4) (S := fun w' => w'.cell? ⟨b16, 0, none⟩ = some (.slice A1 M1 d1) ∧ w'.cell? ⟨b16, 1, none⟩ = some (.int .i64 G1.row) ∧ w'.cell? ⟨b16, 2, none⟩ = some (.int .i64 G1.col)) (ds := [3]) (tb 4 0) (by kernel_rfl) rfl rfl ⟨z0, z1, z2⟩ (fun hHeld => ?_)
    refine tP 0 (some 75) (tb 4 1) ?_
    refine tP 2 (some 11) (tb 4 5) ?_
    refine tK 1 (some 76) (tb 4 7) ?_
    refine last_ (i := 3) (N := none) (tb 4 15) rfl rfl (by kernel_rfl) (by decide) (fun K hK => ?_)
    refine whole_step (cs' := #[.slice A1 M1 d1, .int .i64 G1.row, .int .i64 G1.col]) (by rfl) (.tmp 13) (.tmp 76) rfl rfl (by rfl) (by rfl) ((Q8.out.below bE).bx (b13, gB (.slice Av Nv cv) G) (by simp)).1 rfl (by kernel_rfl) (by simp [Value.oneCell']; done) ?_
    intro w9 hx_ hg_
    have Q9 := aS (PB.tail (PB.store (l1 := [(b16, gB (.slice A1 M1 d1) G1)]) (l2 := []) (o' := gB (.slice A1 M1 d1) G1) (Q8.out.below bE) hx_ hg_))
    clear hx_ hg_
    refine hK.out _ _ ?_
    clear hK K
    refine done_ (by kernel_rfl) ?_
    all_goals obtain ⟨y0, y1, y2⟩ := gcells (Q9.out.bx (b13, gB (.slice A1 M1 d1) G1) (by simp)).1
    all_goals go_wp2_with (first | (go_at_call 10; go_must ((with_reducible refine (Same7_any Q9.out.p.gr Q9.out.p.rd).mono ?_); rintro e w10 ⟨rfl, hb⟩; have Q10 := aS (Q9.out.below hb); clear hb; clear y0 y1 y2; obtain ⟨y0, y1, y2⟩ := gcells (Q10.out.bx (b13, gB (.slice A1 M1 d1) G1) (by simp)).1)) | (go_at_call 11; go_must ((with_reducible refine (Right_any Q10.out.p.gr).mono ?_); rintro e w11 ⟨rfl, hb⟩; have Q11 := aS (Q10.out.below hb); clear hb; clear y0 y1 y2; obtain ⟨y0, y1, y2⟩ := gcells (Q11.out.bx (b13, gB (.slice A1 M1 d1) G1) (by simp)).1)) | (go_at_call 12; go_must ((with_reducible refine (rgRight_any Q11.out.p.gr.ok Q11.out.p.rd).mono ?_); rintro e w12 ⟨rfl, hb⟩; have Q12 := aS (Q11.out.below hb); clear hb)))
    all_goals go_roundg (41 - (i + 1))
    all_goals first | (case measure => have := HK.out; omega) | (case rel => exact ⟨i + 1, g1, G1, _, O7, d7, rfl, by go_num, ⟨rfl, by omega⟩, Q12⟩)
   ·have hor : (decide (i < N1) = false ∧ decide ((i : Int) < (N1 : Int)) = false) ∨ ((decide (i < N1) = true ∧ decide ((i : Int) < (N1 : Int)) = true) ∧ decide (i < 40) = false ∧ decide ((i : Int) < 40) = false) := by
     by_cases hi : i < N1
     ·right
      have h4 : ¬ i < 40 := fun h => hh ⟨hi, h⟩
      exact ⟨⟨decide_eq_true hi, decide_eq_true (by omega)⟩, decide_eq_false h4, decide_eq_false (by omega)⟩
     ·left
      exact ⟨decide_eq_false hi, decide_eq_false (by omega)⟩
    obtain ⟨Av, Nv, cv, rfl⟩ := RD.slice HT.out.p.rd
    obtain ⟨xa, hxa⟩ : ∃ x, (gAt G rr cc).1 = x := ⟨_, rfl⟩
    obtain ⟨ba, hba⟩ : ∃ x, (gAt G rr cc).2 = x := ⟨_, rfl⟩
    obtain ⟨hb, hhb⟩ : ∃ x, gHas G rr = x := ⟨_, rfl⟩
    obtain ⟨nl, hnl⟩ : ∃ n : Nat, (if gHas G rr = true then gLn G rr else []).length = n := ⟨_, rfl⟩
    have HXA := aS (show (gAt G rr cc).1 = xa ∧ (gAt G rr cc).2 = ba ∧ W32 xa ∧ gHas G rr = hb ∧ (if gHas G rr = true then gLn G rr else []).length = nl ∧ prolepsislaw07_count.f hb (G.cols : Int) = some ((nl : Nat) : Int) from ⟨hxa, hba, by rw [← hxa]; exact gAt_W32 HT.out.p.gr.ok _ _, hhb, hnl, by rw [← hnl, gLn_len HT.out.p.gr.ok, hhb]; unfold prolepsislaw07_count.f; split <;> rfl⟩)
    clear hh HK hxa hba hhb hnl
    rcases hor with ⟨hT1, hT1'⟩ | ⟨⟨hT1, hT1'⟩, hT2, hT2'⟩
    all_goals
     obtain ⟨y0, y1, y2⟩ := gcells (HT.out.bx _ List.mem_cons_self).1
     go_wp2_with (first | (go_at_call 13; go_must ((with_reducible refine (At_any HT.out.p.gr rr cc).mono ?_); rintro e w10 ⟨rfl, hb_⟩; rw [HXA.out.1, HXA.out.2.1]; have Q10 := aS (HT.out.below hb_); clear hb_)) | (refine bx 18 #[.int .i32 0, .int .i32 0, .int .i32 0, .int .u8 0, .int .u8 0, .int .u8 0, .int .u8 0] 40 ?_; intro b18 hg_ w11 hx_ hb_; have Q11 := aS (PB.box (o := cellB zC) Q10.out hx_ hg_ hb_); clear hg_ hx_ hb_) | ((with_reducible refine gate_store (t := 40) (p := 18) rfl ?_); go_must (refine step_whole (.tmp 18) (.tmp 100) rfl rfl rfl rfl rfl (Q11.out.bx (b18, cellB zC) (by simp)).1 rfl (by kernel_rfl) (by simp [Value.oneCell']; done) ?_); intro w12 hx_ hg_; have Q12 := aS (PB.store (l1 := []) (l2 := [(b13, gB (.slice Av Nv cv) G)]) (o' := cellB xa) Q11.out hx_ hg_); clear hx_ hg_; clear y0 y1 y2; obtain ⟨y0, y1, y2⟩ := gcells (Q12.out.bx (b13, gB (.slice Av Nv cv) G) (by simp)).1) | (go_at_call 14; go_must ((with_reducible refine (rgAt_any Q12.out.p.gr.ok Q12.out.p.rd rr cc).mono ?_); rintro e w13 ⟨rfl, hb_⟩; rw [HXA.out.1, HXA.out.2.1]; have Q13 := aS (Q12.out.below hb_); clear hb_)) | (refine bx 20 #[.int .i64 0, .int .i64 0, .int .i64 0, .int .u8 0, .int .u8 0, .int .u8 0, .int .u8 0] 52 ?_; intro b20 hg_ w14 hx_ hb_; have Q14 := aS (PB.box (o := refB zC) Q13.out hx_ hg_ hb_); clear hg_ hx_ hb_) | ((with_reducible refine gate_store (t := 52) (p := 20) rfl ?_); go_must (refine step_whole (.tmp 20) (.tmp 107) rfl rfl rfl rfl rfl (Q14.out.bx (b20, refB zC) (by simp)).1 rfl (by kernel_rfl) (by simp [Value.oneCell']; done) ?_); intro w15 hx_ hg_; have Q15 := aS (PB.store (l1 := []) (l2 := [(b18, cellB xa), (b13, gB (.slice Av Nv cv) G)]) (o' := refB xa) Q14.out hx_ hg_); clear hx_ hg_; clear y0 y1 y2))
     obtain ⟨y0, y1, y2⟩ := gcells (Q15.out.bx (b13, gB (.slice Av Nv cv) G) (by simp)).1
     obtain ⟨u0, u1, u2, u3, u4, u5, u6⟩ := ccells (Q15.out.bx (b18, cellB xa) (by simp)).1
     obtain ⟨t0, t1, t2, t3, t4, t5, t6⟩ := rbcells (Q15.out.bx (b20, refB xa) (by simp)).1
     go_wp2
     refine start_ (n := 26) (S := fun w' => w'.cell? ⟨b13, 0, none⟩ = some (.slice Av Nv cv) ∧ w'.cell? ⟨b13, 1, none⟩ = some (.int .i64 G.row) ∧ w'.cell? ⟨b13, 2, none⟩ = some (.int .i64 G.col) ∧ w'.cell? ⟨b18, 0, none⟩ = some (.int .i32 xa.f0) ∧ w'.cell? ⟨b18, 1, none⟩ = some (.int .i32 xa.f1.f0) ∧ w'.cell? ⟨b18, 2, none⟩ = some (.int .i32 xa.f1.f1) ∧ w'.cell? ⟨b18, 3, none⟩ = some (.int .u8 xa.f2) ∧ w'.cell? ⟨b18, 4, none⟩ = some (.int .u8 xa.f3.f0) ∧ w'.cell? ⟨b18, 5, none⟩ = some (.int .u8 xa.f3.f1) ∧ w'.cell? ⟨b18, 6, none⟩ = some (.int .u8 xa.f3.f2) ∧ w'.cell? ⟨b20, 0, none⟩ = some (.int .i64 xa.f0) ∧ w'.cell? ⟨b20, 1, none⟩ = some (.int .i64 xa.f1.f0) ∧ w'.cell? ⟨b20, 2, none⟩ = some (.int .i64 xa.f1.f1) ∧ w'.cell? ⟨b20, 3, none⟩ = some (.int .u8 xa.f2) ∧ w'.cell? ⟨b20, 4, none⟩ = some (.int .u8 xa.f3.f0) ∧ w'.cell? ⟨b20, 5, none⟩ = some (.int .u8 xa.f3.f1) ∧ w'.cell? ⟨b20, 6, none⟩ = some (.int .u8 xa.f3.f2)) (ds := [21, 22]) (tb 26 0) (by kernel_rfl) rfl rfl ⟨y0, y1, y2, u0, u1, u2, u3, u4, u5, u6, t0, t1, t2, t3, t4, t5, t6⟩ (fun hHeld => ?_)
     refine sO 0 (some 109) (tb 26 1) (fun K hK => ?_)
     refine gO Tryz.func7 #[] ?_
     with_reducible refine (known_any _).mono ?_
     rintro e wq16 ⟨rfl, hb_⟩
     refine ⟨_, rfl, ?_⟩
     have Q16 := aS ((Q15.out.below bE).below hb_)
     clear hb_
     obtain ⟨y0, y1, y2⟩ := gcells (Q16.out.bx (b13, gB (.slice Av Nv cv) G) (by simp)).1
     obtain ⟨u0, u1, u2, u3, u4, u5, u6⟩ := ccells (Q16.out.bx (b18, cellB xa) (by simp)).1
     obtain ⟨t0, t1, t2, t3, t4, t5, t6⟩ := rbcells (Q16.out.bx (b20, refB xa) (by simp)).1
     refine hK.out _ _ ⟨y0, y1, y2, u0, u1, u2, u3, u4, u5, u6, t0, t1, t2, t3, t4, t5, t6⟩ (fun hHeld => ?_)
     clear hK K
     refine nm ?_
     refine tP 1 (some 110) (tb 26 3) ?_
     refine tK 2 (some 111) (tb 26 7) ?_
     refine tK 4 (some 113) (tb 26 23) ?_
     refine sO 3 (some 112) (tb 26 31) (fun K hK => ?_)
     refine gO Tryz.func15 #[cellV xa] ?_
     with_reducible refine (prolepsislaw05_Of.calls xa.f0 xa.f1.f0 xa.f1.f1 xa.f2 xa.f3.f0 xa.f3.f1 xa.f3.f2 xa.f0 xa.f1.f0 xa.f1.f1 xa.f2 xa.f3.f0 xa.f3.f1 xa.f3.f2 _ (lOf1_ok xa HXA.out.2.2.1)).mono ?_
     rintro e wq17 ⟨rfl, hb_⟩
     refine ⟨_, rfl, ?_⟩
     have Q17 := aS ((Q16.out.below bE).below hb_)
     clear hb_
     obtain ⟨y0, y1, y2⟩ := gcells (Q17.out.bx (b13, gB (.slice Av Nv cv) G) (by simp)).1
     obtain ⟨u0, u1, u2, u3, u4, u5, u6⟩ := ccells (Q17.out.bx (b18, cellB xa) (by simp)).1
     obtain ⟨t0, t1, t2, t3, t4, t5, t6⟩ := rbcells (Q17.out.bx (b20, refB xa) (by simp)).1
     refine hK.out _ _ ⟨y0, y1, y2, u0, u1, u2, u3, u4, u5, u6, t0, t1, t2, t3, t4, t5, t6⟩ (fun hHeld => ?_)
     clear hK K
     refine nm ?_
     refine tP 5 (some 114) (tb 26 63) ?_
     refine tP 6 (some 115) (tb 26 127) ?_
     refine tP 7 (some 116) (tb 26 255) ?_
     refine tP 8 (some 117) (tb 26 511) ?_
     refine tP 9 (some 118) (tb 26 1023) ?_
     refine tP 10 (some 119) (tb 26 2047) ?_
     refine tP 11 (some 120) (tb 26 4095) ?_
     refine tP 12 (some 121) (tb 26 8191) ?_
     refine tP 13 (some 122) (tb 26 16383) ?_
     refine tP 14 (some 123) (tb 26 32767) ?_
     refine tP 18 (some 127) (tb 26 294911) ?_
     refine tK 17 (some 126) (tb 26 425983) ?_
     refine tK 20 (some 129) (tb 26 1474559) ?_
     refine sO 15 (some 124) (tb 26 1507327) (fun K hK => ?_)
     refine gO Tryz.func16 #[.pointer (some ⟨g, 0, none⟩), .int .i64 rr] ?_
     with_reducible refine (Line_any (Q17.out.below bE).p.gr rr).mono ?_
     rintro e wq18 ⟨vl, rfl, hR, hb_⟩
     refine ⟨_, rfl, ?_⟩
     obtain ⟨Al, cl, rfl, -, -⟩ := Kd.R_reads hR
     rw [HXA.out.2.2.2.2.1]
     clear hR
     have Q18 := aS ((Q17.out.below bE).below hb_)
     clear hb_
     obtain ⟨y0, y1, y2⟩ := gcells (Q18.out.bx (b13, gB (.slice Av Nv cv) G) (by simp)).1
     obtain ⟨u0, u1, u2, u3, u4, u5, u6⟩ := ccells (Q18.out.bx (b18, cellB xa) (by simp)).1
     obtain ⟨t0, t1, t2, t3, t4, t5, t6⟩ := rbcells (Q18.out.bx (b20, refB xa) (by simp)).1
     refine hK.out _ _ ⟨y0, y1, y2, u0, u1, u2, u3, u4, u5, u6, t0, t1, t2, t3, t4, t5, t6⟩ (fun hHeld => ?_)
     clear hK K
     refine nm ?_
     refine tP 16 (some 125) (tb 26 1572863) ?_
     refine sO 19 (some 128) (tb 26 2097151) (fun K hK => ?_)
     refine gO Tryz.func18 #[gV (.slice Av Nv cv) G, .int .i64 rr] ?_
     with_reducible refine (rHas_any (Q18.out.below bE).p.rd rr).mono ?_
     rintro e wq19 ⟨rfl, hb_⟩
     refine ⟨_, rfl, ?_⟩
     rw [HXA.out.2.2.2.1]
     have Q19 := aS ((Q18.out.below bE).below hb_)
     clear hb_
     obtain ⟨y0, y1, y2⟩ := gcells (Q19.out.bx (b13, gB (.slice Av Nv cv) G) (by simp)).1
     obtain ⟨u0, u1, u2, u3, u4, u5, u6⟩ := ccells (Q19.out.bx (b18, cellB xa) (by simp)).1
     obtain ⟨t0, t1, t2, t3, t4, t5, t6⟩ := rbcells (Q19.out.bx (b20, refB xa) (by simp)).1
     refine hK.out _ _ ⟨y0, y1, y2, u0, u1, u2, u3, u4, u5, u6, t0, t1, t2, t3, t4, t5, t6⟩ (fun hHeld => ?_)
     clear hK K
     refine nm ?_
     refine last_ (i := 21) (N := some 130) (tb 26 4194303) rfl rfl (by kernel_rfl) (by decide) (fun K hK => ?_)
     refine gO Tryz.func19 #[gV (.slice Av Nv cv) G] ?_
     with_reducible refine (rCols_any (Q19.out.below bE).p.rd (Q19.out.below bE).p.gr.ok).mono ?_
     rintro e wq20 ⟨rfl, hb_⟩
     refine ⟨_, rfl, ?_⟩
     have Q20 := aS ((Q19.out.below bE).below hb_)
     clear hb_
     refine hK.out _ _ ?_
     clear hK K
     refine nm ?_
     refine last_ (i := 22) (N := some 131) (tb 26 8388607) rfl rfl (by kernel_rfl) (by decide) (fun K hK => ?_)
     refine gO Tryz.func17 #[.bool hb, .int .i64 G.cols] ?_
     with_reducible refine (prolepsislaw07_count.calls hb (G.cols : Int) ((nl : Nat) : Int) _ HXA.out.2.2.2.2.2).mono ?_
     rintro e wq21 ⟨rfl, hd_⟩
     refine ⟨_, rfl, ?_⟩
     have Q21 := aS ((Q20.out.below bE).below hd_.below)
     clear hd_
     refine hK.out _ _ ?_
     clear hK K
     refine nm ?_
     refine tP 23 (some 132) (tb 26 16777215) ?_
     refine tP 24 (some 133) (tb 26 33554431) ?_
     refine tP 25 (some 10) (tb 26 67108863) ?_
     refine done_ (by kernel_rfl) ?_
     all_goals go_wp2
     all_goals go_ret
     all_goals exact ⟨by simp, (Q21.out.below bE).bel⟩
 ·have HZ := aS (Bool.eq_false_iff.2 hz)
  clear hz
  go_enter Tryz.func3, Tryz.ntmps3
  go_wp2_with (first | (go_at_call 4; (with_reducible refine (prolepsislaw07_small.calls r sr w HSR.out).mono ?_); rintro e w2 ⟨rfl, hd⟩; have D2 := aS hd.below; clear hd) | (go_at_call 4; (with_reducible refine (prolepsislaw07_small.calls c sc w2 HSC.out).mono ?_); rintro e w3 ⟨rfl, hd⟩; have H3 := aS (below_step D2.out hd.below); clear hd) | (go_at_call 5; (with_reducible refine (New_no sr sc HZ.out w3).mono ?_); rintro e w4 ⟨rfl, hb⟩; have H4 := aS (below_step H3.out hb); clear hb) | (go_at_call 6; go_must (refine (prolepsisref07_Size.calls sr sc _ w4 (rsize_ok sr sc)).mono ?_); rintro e w5 ⟨rfl, hd⟩; rw [HZ.out]; have H5 := aS (below_step H4.out hd.below); clear hd) | (go_at_call 7; go_must (refine (known_any w5).mono ?_); rintro e w6 ⟨rfl, hb⟩; have H6 := aS (below_step H5.out hb); clear hb))
  all_goals go_ret
  all_goals exact ⟨rfl, H6.out⟩
theorem own_GridPlays : ownKnob Tryz.prog.godebug = none := by kernel_rfl
theorem laidOut_GridPlays : laidOutB Tryz.prog = true := by kernel_rfl
set_option maxRecDepth 100000 in
theorem lifted_GridPlays (os : Os) (started : os.Started) (H : Type) (enc : TypeId × Value → H) :
 ReturnsInHanded {} Tryz.checked os 3 .any (Rows.gridPlaysSpec.pre6 enc Tryz.prog Tryz.f3 Rows.gridPlaysRow.domain false) (Rows.gridPlaysSpec.post enc Tryz.prog Tryz.f3 false true false false) := by
 refine returnsInHanded_of_change (C := Tryz.checked) own_GridPlays started (by kernel_rfl) Tryz.func3
  (ChangeSpec.witness6 (enc := enc) (C := Tryz.checked) false ⟨#[], #[.int .i64 0, .int .i64 0, .slice none 0 0, .int .i64 0, .int .i64 0], []⟩ 8 (by kernel_rfl) (by kernel_rfl) (by kernel_rfl) (by kernel_rfl)) ?_
 intro W base args ds gs before hval0 hW hcnd _
 have hval : ∀ (j : Nat) t v, Tryz.f3.params[j]? = some t → args[j]? = some v → Value.okWide Tryz.prog W .any base t v := hval0
 have hW' := hW
 obtain ⟨p, q, hA0, hV, rfl, hfz, hnd⟩ := hW
 have hA : DataW.TrodAll enc Tryz.prog W 0 (fun _ => true) true Tryz.f3.params.toList args.toList ds p := hA0
 rw [Tryz.params3] at hA hval
 obtain ⟨v0, vs0, d0, ds0, p0, q0, hargs, rfl, rfl, h0, r0⟩ := trodAll_cons hA
 obtain ⟨v1, vs1, d1, ds1, p1, q1, rfl, rfl, rfl, h1, r1⟩ := trodAll_cons r0
 obtain ⟨v2, vs2, d2, ds2, p2, q2, rfl, rfl, rfl, h2, r2⟩ := trodAll_cons r1
 obtain ⟨v3, vs3, d3, ds3, p3, q3, rfl, rfl, rfl, h3, r3⟩ := trodAll_cons r2
 obtain ⟨v4, vs4, d4, ds4, p4, q4, rfl, rfl, rfl, h4, r4⟩ := trodAll_cons r3
 obtain ⟨rfl, rfl, rfl⟩ := trodAll_nil r4
 obtain rfl : args = #[v0, v1, v2, v3, v4] := by cases args; simp_all
 obtain ⟨rfl, rfl⟩ := trodVars_none hV
 obtain ⟨a0, rfl, rfl, rfl, w0⟩ := open_int Tryz.underlying3 (hval 0 3 v0 rfl rfl) h0
 obtain ⟨a1, rfl, rfl, rfl, w1⟩ := open_int Tryz.underlying3 (hval 1 3 v1 rfl rfl) h1
 obtain ⟨a2, len2, cap2, rfl⟩ := okWide_slice Tryz.underlying22 (hval 2 22 v2 rfl rfl)
 have k2 := h2
 have lt2 : ∀ x ∈ p2, x.block < W.heap.size := by obtain ⟨m, hm⟩ := k2; exact DataW.trod_lt m _ _ _ hm
 obtain ⟨l2, rfl, hC2, hc2, hq2⟩ := open_sl (Opn.slice (e := 43) (d := kdAct) (Q := wfAct) Tryz.underlying22 (by kernel_rfl) (fun {H} => @opn_Act H)) h2
 obtain ⟨a3, rfl, rfl, rfl, w3⟩ := open_int Tryz.underlying3 (hval 3 3 v3 rfl rfl) h3
 obtain ⟨a4, rfl, rfl, rfl, w4⟩ := open_int Tryz.underlying3 (hval 4 3 v4 rfl rfl) h4
 refine (walk_GridPlays a0 a1 a2 cap2 l2 a3 a4 W w0 w1 hC2 hc2 hq2 w3 w4).mono fun e W' ⟨he, bel⟩ => ?_
 subst he
 exact ⟨_, rfl, _, _, _, [], _, [], hW', trodAll_mk1 (shut_bool Tryz.underlying4 _), (trodAll_cons_mk (shut_int Tryz.underlying3 w0) (trodAll_cons_mk (shut_int Tryz.underlying3 w1) (trodAll_cons_mk (Below.trod laidOut_GridPlays (by kernel_rfl) (of_decide_eq_true (by kernel_rfl)) k2 bel lt2) (trodAll_cons_mk (shut_int Tryz.underlying3 w3) (trodAll_cons_mk (shut_int Tryz.underlying3 w4) trodAll_mk0))))), rfl, bel.frame _, fun h => by cases h⟩
theorem GridPlays_holds : Rows.GridPlaysSaid :=
 OpenClaim.holds_of_wide 3 Tryz.f3 rfl rfl rfl rfl rfl rfl rfl ⟨rfl, rfl, rfl, rfl, rfl⟩ rfl rfl rfl rfl rfl (by kernel_rfl) Tryz.func3 (by kernel_rfl)
  (of_decide_eq_true (by kernel_rfl)) (by unfold Func.isWrapper; first | (rw [if_pos (by decide +kernel)]; kernel_rfl) | (rw [if_neg (by decide +kernel)]; exact ⟨rfl, rfl⟩))
  (fun os started H enc _ => lifted_GridPlays os started H enc)
#print axioms GridPlays_holds
end Go.Proofs.YtblcmcdifgclcaaGreat.Grd
