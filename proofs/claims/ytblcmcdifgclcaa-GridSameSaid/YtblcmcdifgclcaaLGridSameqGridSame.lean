/- GridSame: what its proof leads to. No condition. -/
import Derived.Test.YtblcmcdifgclcaaRows
import Derived.Test.YtblcmcdifgclcaaG34qGridSame
import Derived.ProofKit
import Derived.OpenShut
import Derived.Test.YtblcmcdifgclcaaG4qGridSame
namespace Go.Proofs.Ytblcmcdifgclcaa.Grd
open Go.ChangeShapes Go.WideShapes Go.ChangeAt Go.RowKit Go.Proofs.Ytblcmcdifgclcaa Go.Proofs.Ytblcmcdifgclcaa.PGridSame Go.Proofs.YtblcmcdifgclcaaW.PrintWords Go.Proofs.YtblcmcdifgclcaaW.PrintLast Go.Proofs.YtblcmcdifgclcaaW.PrintMore
set_option linter.unusedVariables false
set_option linter.unusedSimpArgs false
attribute [local go_sem] isSome_setCell max2_int min2_int max_two min_two
set_option maxRecDepth 100000 in
set_option maxHeartbeats 4000000 in
theorem walk_GridSame (r c : Int) (A : Option Addr) (c1 : Nat) (acts : List TAct) (B : Option Addr) (c2 : Nat) (bcts : List TAct) (w : World) (hr : (Lit.int .i64 r).wf = true) (hc : (Lit.int .i64 c).wf = true) (hC1 : Kd.C kdAct w A acts.length acts) (hc1 : acts.length ≤ c1) (hq1 : ∀ x ∈ acts, wfAct x) (hC2 : Kd.C kdAct w B bcts.length bcts) (hc2 : bcts.length ≤ c2) (hq2 : ∀ x ∈ bcts, wfAct x) :
 Calls Try.prog 11 #[.int .i64 r, .int .i64 c, .slice A acts.length c1, .slice B bcts.length c2] w fun e w' => e = .returned (.bool true) ∧ Below w.heap.size w w' := by
 clear hr hc
 obtain ⟨sr, hsr⟩ : ∃ s, smallV r = s := ⟨_, rfl⟩
 obtain ⟨sc, hsc⟩ : ∃ s, smallV c = s := ⟨_, rfl⟩
 have HSR := aS (show prolepsislaw07_small.f r = some sr by rw [small_ok, hsr])
 have HSC := aS (show prolepsislaw07_small.f c = some sc by rw [small_ok, hsc])
 clear hsr hsc
 obtain ⟨N1, hN1⟩ : ∃ n, acts.length = n := ⟨_, rfl⟩
 obtain ⟨N2, hN2⟩ : ∃ n, bcts.length = n := ⟨_, rfl⟩
 rw [hN1] at hC1 hc1 ⊢
 rw [hN2] at hC2 hc2 ⊢
 have HN1 := Aside0.mk hN1
 have HN2 := Aside0.mk hN2
 have HC1 := Aside0.mk hC1
 have HC2 := Aside0.mk hC2
 have HQ1 := Aside0.mk hq1
 have HQ2 := Aside0.mk hq2
 clear hN1 hN2 hC1 hC2 hq1 hq2 hc1 hc2
 by_cases hz : gSize sr sc = true
 ·have HZ := Aside0.mk hz
  clear hz
  obtain ⟨G0, hG0⟩ : ∃ G, gNew sr sc = G := ⟨_, rfl⟩
  have HG0 := Aside0.mk hG0
  clear hG0
  go_enter Try.func11, Try.ntmps11
  go_wp2_with (first | (go_at_call 75; with_reducible refine (prolepsislaw07_small.calls r sr w HSR.out).mono ?_; rintro e w1 ⟨rfl, hd⟩; have H1 := Aside0.mk hd.below; clear hd) | (go_at_call 75; with_reducible refine (prolepsislaw07_small.calls c sc w1 HSC.out).mono ?_; rintro e w2 ⟨rfl, hd⟩; have H2 := aS (below_step H1.out hd.below); clear hd) | (go_at_call 76; with_reducible refine (New_any sr sc HZ.out w2).mono ?_; rintro e w3 ⟨ga, rfl, hF⟩; rw [HG0.out] at hF; have F3 := Aside0.mk hF; clear hF) | (go_at_call 76; with_reducible refine (New_any sr sc HZ.out w3).mono ?_; rintro e w4 ⟨gb, rfl, hF⟩; rw [HG0.out] at hF; have F4 := Aside0.mk hF; clear hF) | (go_at_call 78; with_reducible refine (rgNew_any sr sc HZ.out w4).mono ?_; rintro e w5 ⟨b5, cap5, M5, rfl, -, hG5, hb⟩; rw [HG0.out] at hG5 ⊢; have F5 := aS (And.intro hG5 hb); clear hG5 hb) | (go_at_call 78; with_reducible refine (rgNew_any sr sc HZ.out w5).mono ?_; rintro e w6 ⟨b6, cap6, M6, rfl, -, hG6, hb⟩; rw [HG0.out] at hG6 ⊢; have F6 := aS (And.intro hG6 hb); clear hG6 hb) | (refine bx 13 #[.slice none 0 0, .int .i64 0, .int .i64 0] 108 ?_; intro b13 hg_ w7 hx_ hb_; have E7 := aS (And.intro hg_ (And.intro hb_ hx_)); clear hg_ hx_ hb_) | (refine bx 14 #[.slice none 0 0, .int .i64 0, .int .i64 0] 108 ?_; intro b14 hg_ w8 hx_ hb_; have E8 := aS (And.intro hg_ (And.intro hb_ hx_)); clear hg_ hx_ hb_) | ((with_reducible refine gate_store (t := 108) (p := 13) rfl ?_); go_must (refine step_whole (.tmp 13) (.tmp 56) rfl rfl rfl rfl rfl (show w8.heap[b13]? = some gZ from blk_below E7.out.2.2 E8.out.2.1) rfl (by kernel_rfl) (by simp [Value.oneCell']; done) ?_); intro w9 hx_ hg_; have E9 := aS (And.intro hg_ hx_); clear hx_ hg_) | ((with_reducible refine gate_store (t := 108) (p := 14) rfl ?_); go_must (refine step_whole (.tmp 14) (.tmp 59) rfl rfl rfl rfl rfl (show w9.heap[b14]? = some gZ from blk_grown E8.out.2.2 E9.out.1 (fun e => by injection e with e; have h1 := blk_lt E7.out.2.2; have h2 := E8.out.1; omega)) rfl (by kernel_rfl) (by simp [Value.oneCell']; done) ?_); intro w10 hx_ hg_; have E10 := aS (And.intro hg_ hx_); clear hx_ hg_))
  obtain ⟨O1, hO1⟩ : ∃ O : Nat → Prop, O = (fun k => w2.heap.size ≤ k ∧ k < w3.heap.size) := ⟨_, rfl⟩
  obtain ⟨d1, hd1⟩ : ∃ O : Nat → Prop, O = (fun k => w4.heap.size ≤ k ∧ k < w5.heap.size) := ⟨_, rfl⟩
  obtain ⟨O2, hO2⟩ : ∃ O : Nat → Prop, O = (fun k => w3.heap.size ≤ k ∧ k < w4.heap.size) := ⟨_, rfl⟩
  obtain ⟨d2, hd2⟩ : ∃ O : Nat → Prop, O = (fun k => w5.heap.size ≤ k ∧ k < w6.heap.size) := ⟨_, rfl⟩
  have HT0 := aS (show TW w w10 O1 d1 O2 d2 ga gb G0 G0 (.slice (some ⟨b5, 0, none⟩) M5 cap5) (.slice (some ⟨b6, 0, none⟩) M6 cap6) b13 b14 from by
   have s2 := H2.out.size
   have s3 := F3.out.2.size
   have s4 := F4.out.2.size
   have s5 := F5.out.2.size
   have s6 := F6.out.2.size
   have B3 := below_step H2.out F3.out.2
   have B4 := below_step B3 F4.out.2
   have B5 := below_step B4 F5.out.2
   have B6 := below_step B5 F6.out.2
   subst hO1 hd1 hO2 hd2
   exact TW.start B6 (((PL.new F3.out F5.out.1 F4.out.2 F5.out.2).below F6.out.2).more s2) ((PL.new F4.out F6.out.1 F5.out.2 F6.out.2).more (by omega)) (fun k hk h2 => by rcases hk with hk | hk <;> omega) (fun k hk h2 => by rcases hk with hk | hk <;> omega) E7.out.2.1 E7.out.1 (blk_lt E7.out.2.2) E8.out.2.1 E8.out.1 E9.out.1 E9.out.2 E10.out.1 E10.out.2)
  clear H1 H2 F3 F4 F5 F6 E7 E8 E9 E10 hO1 hd1 hO2 hd2
  go_loopg [9, 15] 41 (fun kq v9 v15 w' => ∃ (i g : Nat) (G : GV) (v : Value) (O d : Nat → Prop), v9 = .pointer (some ⟨g, 0, none⟩) ∧ v15 = .int .i64 i ∧ Aside0 (kq = 41 - i ∧ i ≤ 40) ∧ Aside0 (TW w w' O d O2 d2 g gb G G0 v (.slice (some ⟨b6, 0, none⟩) M6 cap6) b13 b14))
  case atStart => exact ⟨0, ga, G0, _, O1, d1, rfl, by go_num, ⟨by omega, by omega⟩, HT0⟩
  case round =>
   clear HT0
   obtain ⟨i, g, G, v, O, d, rfl, rfl, HK, HT⟩ := hrel
   by_cases hi : i < N1
   ·have hT1 : decide (i < N1) = true := decide_eq_true hi
    have hT1' : decide ((i : Int) < (N1 : Int)) = true := decide_eq_true (by omega)
    by_cases h4 : i < 40
    ·have hT2 : decide (i < 40) = true := decide_eq_true h4
     have hT2' : decide ((i : Int) < 40) = true := decide_eq_true (by omega)
     have hw1 : wrap64 ((i : Int) + 1) = ((i + 1 : Nat) : Int) := by rw [w64 (by omega) (by omega)]; omega
     obtain ⟨Av, Nv, cv, rfl⟩ := RD.slice HT.out.p.rd
     obtain ⟨x, hx⟩ : ∃ x, acts[i]? = some x := ⟨_, List.getElem?_eq_getElem (by rw [HN1.out]; exact hi)⟩
     have ha := aw_of (HQ1.out x (List.mem_of_getElem? hx))
     obtain ⟨ad, Al, cl, rfl, ⟨hcl, hCl⟩, x0, x1, x2, x3, x4, x5, x6, x7, x8, x9, x10, x11, x12, x13, x14, x15⟩ := at_Act HC1.out i x hx
     clear hx
     obtain ⟨a, hta⟩ : ∃ a, toA x = a := ⟨_, rfl⟩
     rw [hta] at ha hcl hCl x0 x1 x2 x3 x4 x5 x6 x7 x8 x9 x10 x11 x12 x13 x14 x15
     clear hta
     obtain ⟨n, hn⟩ : ∃ n, a.l.length = n := ⟨_, rfl⟩
     rw [hn] at hcl hCl x15
     have HA := aS (And.intro ha (And.intro hn.symm (And.intro hcl hCl)))
     clear ha hn hcl hCl
     replace x0 := (HT.out.bel.cell (World.block_lt_of_cell? w _ x0)).trans x0
     replace x1 := (HT.out.bel.cell (World.block_lt_of_cell? w _ x1)).trans x1
     replace x2 := (HT.out.bel.cell (World.block_lt_of_cell? w _ x2)).trans x2
     replace x3 := (HT.out.bel.cell (World.block_lt_of_cell? w _ x3)).trans x3
     replace x4 := (HT.out.bel.cell (World.block_lt_of_cell? w _ x4)).trans x4
     replace x5 := (HT.out.bel.cell (World.block_lt_of_cell? w _ x5)).trans x5
     replace x6 := (HT.out.bel.cell (World.block_lt_of_cell? w _ x6)).trans x6
     replace x7 := (HT.out.bel.cell (World.block_lt_of_cell? w _ x7)).trans x7
     replace x8 := (HT.out.bel.cell (World.block_lt_of_cell? w _ x8)).trans x8
     replace x9 := (HT.out.bel.cell (World.block_lt_of_cell? w _ x9)).trans x9
     replace x10 := (HT.out.bel.cell (World.block_lt_of_cell? w _ x10)).trans x10
     replace x11 := (HT.out.bel.cell (World.block_lt_of_cell? w _ x11)).trans x11
     replace x12 := (HT.out.bel.cell (World.block_lt_of_cell? w _ x12)).trans x12
     replace x13 := (HT.out.bel.cell (World.block_lt_of_cell? w _ x13)).trans x13
     replace x14 := (HT.out.bel.cell (World.block_lt_of_cell? w _ x14)).trans x14
     replace x15 := (HT.out.bel.cell (World.block_lt_of_cell? w _ x15)).trans x15
     obtain ⟨y0, y1, y2⟩ := gcells HT.out.bx
     go_wp2
     refine start_ (n := 13) (S := fun w' => w'.cell? ⟨b13, 0, none⟩ = some (.slice Av Nv cv) ∧ w'.cell? ⟨b13, 1, none⟩ = some (.int .i64 G.row) ∧ w'.cell? ⟨b13, 2, none⟩ = some (.int .i64 G.col) ∧ w'.cell? (ad.add (i * 16)) = some (.int .i64 a.k) ∧ w'.cell? ⟨(ad.add (i * 16)).block, (ad.add (i * 16)).off + 1, none⟩ = some (.int .i64 a.r) ∧ w'.cell? ⟨(ad.add (i * 16)).block, (ad.add (i * 16)).off + 2, none⟩ = some (.int .i64 a.c) ∧ w'.cell? ⟨(ad.add (i * 16)).block, (ad.add (i * 16)).off + 3, none⟩ = some (.int .i64 a.t) ∧ w'.cell? ⟨(ad.add (i * 16)).block, (ad.add (i * 16)).off + 4, none⟩ = some (.int .i32 a.x.f0) ∧ w'.cell? ⟨(ad.add (i * 16)).block, (ad.add (i * 16)).off + 5, none⟩ = some (.int .i32 a.x.f1.f0) ∧ w'.cell? ⟨(ad.add (i * 16)).block, (ad.add (i * 16)).off + 6, none⟩ = some (.int .i32 a.x.f1.f1) ∧ w'.cell? ⟨(ad.add (i * 16)).block, (ad.add (i * 16)).off + 7, none⟩ = some (.int .u8 a.x.f2) ∧ w'.cell? ⟨(ad.add (i * 16)).block, (ad.add (i * 16)).off + 8, none⟩ = some (.int .u8 a.x.f3.f0) ∧ w'.cell? ⟨(ad.add (i * 16)).block, (ad.add (i * 16)).off + 9, none⟩ = some (.int .u8 a.x.f3.f1) ∧ w'.cell? ⟨(ad.add (i * 16)).block, (ad.add (i * 16)).off + 10, none⟩ = some (.int .u8 a.x.f3.f2) ∧ w'.cell? ⟨(ad.add (i * 16)).block, (ad.add (i * 16)).off + 11, none⟩ = some (.int .i32 a.m) ∧ w'.cell? ⟨(ad.add (i * 16)).block, (ad.add (i * 16)).off + 12, none⟩ = some (.int .u8 a.p0) ∧ w'.cell? ⟨(ad.add (i * 16)).block, (ad.add (i * 16)).off + 13, none⟩ = some (.int .u8 a.p1) ∧ w'.cell? ⟨(ad.add (i * 16)).block, (ad.add (i * 16)).off + 14, none⟩ = some (.int .u8 a.p2) ∧ w'.cell? ⟨(ad.add (i * 16)).block, (ad.add (i * 16)).off + 15, none⟩ = some (.slice Al n cl)) (ds := [6, 12]) (tb 13 0) (by kernel_rfl) rfl rfl ⟨y0, y1, y2, x0, x1, x2, x3, x4, x5, x6, x7, x8, x9, x10, x11, x12, x13, x14, x15⟩ (fun hHeld => ?_)
     refine tP 0 (some 71) (tb 13 1) ?_
     refine tP 2 (some 73) (tb 13 5) ?_
     refine tP 3 (some 74) (tb 13 13) ?_
     refine tP 4 (some 75) (tb 13 29) ?_
     refine tK 1 (some 72) (tb 13 31) ?_
     refine tK 5 (some 76) (tb 13 63) ?_
     refine last_ (i := 6) (N := some 77) (tb 13 127) rfl rfl (by kernel_rfl) (by decide) (fun K hK => ?_)
     refine gO Try.func79 #[.pointer (some ⟨g, 0, none⟩), gV (.slice Av Nv cv) G, actV a Al n cl] ?_
     with_reducible refine (HT.out.do_ bE a HA.out.1 HA.out.2.1 HA.out.2.2.1 HA.out.2.2.2).mono ?_
     rintro e wc ⟨g1, A1', N1', c1', O1', d1', rfl, b1, hk⟩
     refine ⟨_, rfl, ?_⟩
     have H6 := aS (And.intro b1 hk)
     clear b1 hk
     refine hK.out _ _ ?_
     clear hK K
     refine nm ?_
     refine tP 7 (some 70) (tb 13 255) ?_
     refine tP 8 (some 78) (tb 13 511) ?_
     refine tP 9 (some 79) (tb 13 1023) ?_
     refine tP 10 (some 80) (tb 13 2047) ?_
     refine tP 11 (some 9) (tb 13 4095) ?_
     refine last_ (i := 12) (N := none) (tb 13 8191) rfl rfl (by kernel_rfl) (by decide) (fun K hK => ?_)
     refine whole_step (cs' := #[.slice A1' N1' c1', .int .i64 (doV G a).row, .int .i64 (doV G a).col]) (by rfl) (.tmp 13) (.tmp 79) rfl rfl (by rfl) (by rfl) H6.out.1 rfl (by kernel_rfl) (by simp [Value.oneCell']; done) ?_
     intro w12 hx_ hg_
     have H12 := aS (H6.out.2 _ hg_ hx_)
     clear hx_ hg_
     refine hK.out _ _ ?_
     clear hK K
     refine done_ (by kernel_rfl) ?_
     all_goals go_wp2
     all_goals go_roundg (41 - (i + 1))
     all_goals first | (case measure => have := HK.out; omega) | (case rel => exact ⟨i + 1, g1, doV G a, _, O1', d1', rfl, by go_num, ⟨rfl, by omega⟩, H12⟩)
    ·have hT2 : decide (i < 40) = false := decide_eq_false h4
     have hT2' : decide ((i : Int) < 40) = false := decide_eq_false (by omega)
     clear hi h4
     obtain ⟨Ax, Nx, cx, rfl⟩ := RD.slice HT.out.p.rd
     have HT1 := Aside0.mk HT.out.swap
     clear HT HK
     go_wp2
     go_loopg [11, 16] 41 (fun kq v11 v16 w' => ∃ (i h : Nat) (H : GV) (v2 : Value) (O2 d2 : Nat → Prop), v11 = .pointer (some ⟨h, 0, none⟩) ∧ v16 = .int .i64 i ∧ Aside0 (kq = 41 - i ∧ i ≤ 40) ∧ Aside0 (TW w w' O2 d2 O d h g H G v2 (.slice Ax Nx cx) b14 b13))
     case atStart => exact ⟨0, gb, G0, _, O2, d2, rfl, by go_num, ⟨by omega, by omega⟩, HT1⟩
     case round =>
      clear HT1
      obtain ⟨i, h, H, v2, O2, d2, rfl, rfl, HK, HT⟩ := hrel
      by_cases hi : i < N2
      ·have hT1 : decide (i < N2) = true := decide_eq_true hi
       have hT1' : decide ((i : Int) < (N2 : Int)) = true := decide_eq_true (by omega)
       by_cases h4 : i < 40
       ·have hT2 : decide (i < 40) = true := decide_eq_true h4
        have hT2' : decide ((i : Int) < 40) = true := decide_eq_true (by omega)
        have hw1 : wrap64 ((i : Int) + 1) = ((i + 1 : Nat) : Int) := by rw [w64 (by omega) (by omega)]; omega
        obtain ⟨Av, Nv, cv, rfl⟩ := RD.slice HT.out.p.rd
        obtain ⟨x, hx⟩ : ∃ x, bcts[i]? = some x := ⟨_, List.getElem?_eq_getElem (by rw [HN2.out]; exact hi)⟩
        have ha := aw_of (HQ2.out x (List.mem_of_getElem? hx))
        obtain ⟨ad, Al, cl, rfl, ⟨hcl, hCl⟩, x0, x1, x2, x3, x4, x5, x6, x7, x8, x9, x10, x11, x12, x13, x14, x15⟩ := at_Act HC2.out i x hx
        clear hx
        obtain ⟨a, hta⟩ : ∃ a, toA x = a := ⟨_, rfl⟩
        rw [hta] at ha hcl hCl x0 x1 x2 x3 x4 x5 x6 x7 x8 x9 x10 x11 x12 x13 x14 x15
        clear hta
        obtain ⟨n, hn⟩ : ∃ n, a.l.length = n := ⟨_, rfl⟩
        rw [hn] at hcl hCl x15
        have HA := aS (And.intro ha (And.intro hn.symm (And.intro hcl hCl)))
        clear ha hn hcl hCl
        replace x0 := (HT.out.bel.cell (World.block_lt_of_cell? w _ x0)).trans x0
        replace x1 := (HT.out.bel.cell (World.block_lt_of_cell? w _ x1)).trans x1
        replace x2 := (HT.out.bel.cell (World.block_lt_of_cell? w _ x2)).trans x2
        replace x3 := (HT.out.bel.cell (World.block_lt_of_cell? w _ x3)).trans x3
        replace x4 := (HT.out.bel.cell (World.block_lt_of_cell? w _ x4)).trans x4
        replace x5 := (HT.out.bel.cell (World.block_lt_of_cell? w _ x5)).trans x5
        replace x6 := (HT.out.bel.cell (World.block_lt_of_cell? w _ x6)).trans x6
        replace x7 := (HT.out.bel.cell (World.block_lt_of_cell? w _ x7)).trans x7
        replace x8 := (HT.out.bel.cell (World.block_lt_of_cell? w _ x8)).trans x8
        replace x9 := (HT.out.bel.cell (World.block_lt_of_cell? w _ x9)).trans x9
        replace x10 := (HT.out.bel.cell (World.block_lt_of_cell? w _ x10)).trans x10
        replace x11 := (HT.out.bel.cell (World.block_lt_of_cell? w _ x11)).trans x11
        replace x12 := (HT.out.bel.cell (World.block_lt_of_cell? w _ x12)).trans x12
        replace x13 := (HT.out.bel.cell (World.block_lt_of_cell? w _ x13)).trans x13
        replace x14 := (HT.out.bel.cell (World.block_lt_of_cell? w _ x14)).trans x14
        replace x15 := (HT.out.bel.cell (World.block_lt_of_cell? w _ x15)).trans x15
        obtain ⟨y0, y1, y2⟩ := gcells HT.out.bx
        go_wp2
        refine start_ (n := 13) (S := fun w' => w'.cell? ⟨b14, 0, none⟩ = some (.slice Av Nv cv) ∧ w'.cell? ⟨b14, 1, none⟩ = some (.int .i64 H.row) ∧ w'.cell? ⟨b14, 2, none⟩ = some (.int .i64 H.col) ∧ w'.cell? (ad.add (i * 16)) = some (.int .i64 a.k) ∧ w'.cell? ⟨(ad.add (i * 16)).block, (ad.add (i * 16)).off + 1, none⟩ = some (.int .i64 a.r) ∧ w'.cell? ⟨(ad.add (i * 16)).block, (ad.add (i * 16)).off + 2, none⟩ = some (.int .i64 a.c) ∧ w'.cell? ⟨(ad.add (i * 16)).block, (ad.add (i * 16)).off + 3, none⟩ = some (.int .i64 a.t) ∧ w'.cell? ⟨(ad.add (i * 16)).block, (ad.add (i * 16)).off + 4, none⟩ = some (.int .i32 a.x.f0) ∧ w'.cell? ⟨(ad.add (i * 16)).block, (ad.add (i * 16)).off + 5, none⟩ = some (.int .i32 a.x.f1.f0) ∧ w'.cell? ⟨(ad.add (i * 16)).block, (ad.add (i * 16)).off + 6, none⟩ = some (.int .i32 a.x.f1.f1) ∧ w'.cell? ⟨(ad.add (i * 16)).block, (ad.add (i * 16)).off + 7, none⟩ = some (.int .u8 a.x.f2) ∧ w'.cell? ⟨(ad.add (i * 16)).block, (ad.add (i * 16)).off + 8, none⟩ = some (.int .u8 a.x.f3.f0) ∧ w'.cell? ⟨(ad.add (i * 16)).block, (ad.add (i * 16)).off + 9, none⟩ = some (.int .u8 a.x.f3.f1) ∧ w'.cell? ⟨(ad.add (i * 16)).block, (ad.add (i * 16)).off + 10, none⟩ = some (.int .u8 a.x.f3.f2) ∧ w'.cell? ⟨(ad.add (i * 16)).block, (ad.add (i * 16)).off + 11, none⟩ = some (.int .i32 a.m) ∧ w'.cell? ⟨(ad.add (i * 16)).block, (ad.add (i * 16)).off + 12, none⟩ = some (.int .u8 a.p0) ∧ w'.cell? ⟨(ad.add (i * 16)).block, (ad.add (i * 16)).off + 13, none⟩ = some (.int .u8 a.p1) ∧ w'.cell? ⟨(ad.add (i * 16)).block, (ad.add (i * 16)).off + 14, none⟩ = some (.int .u8 a.p2) ∧ w'.cell? ⟨(ad.add (i * 16)).block, (ad.add (i * 16)).off + 15, none⟩ = some (.slice Al n cl)) (ds := [6, 12]) (tb 13 0) (by kernel_rfl) rfl rfl ⟨y0, y1, y2, x0, x1, x2, x3, x4, x5, x6, x7, x8, x9, x10, x11, x12, x13, x14, x15⟩ (fun hHeld => ?_)
        refine tP 0 (some 94) (tb 13 1) ?_
        refine tP 2 (some 96) (tb 13 5) ?_
        refine tP 3 (some 97) (tb 13 13) ?_
        refine tP 4 (some 98) (tb 13 29) ?_
        refine tK 1 (some 95) (tb 13 31) ?_
        refine tK 5 (some 99) (tb 13 63) ?_
        refine last_ (i := 6) (N := some 100) (tb 13 127) rfl rfl (by kernel_rfl) (by decide) (fun K hK => ?_)
        refine gO Try.func79 #[.pointer (some ⟨h, 0, none⟩), gV (.slice Av Nv cv) H, actV a Al n cl] ?_
        with_reducible refine (HT.out.do_ bE a HA.out.1 HA.out.2.1 HA.out.2.2.1 HA.out.2.2.2).mono ?_
        rintro e wc ⟨g1, A1', N1', c1', O1', d1', rfl, b1, hk⟩
        refine ⟨_, rfl, ?_⟩
        have H6 := aS (And.intro b1 hk)
        clear b1 hk
        refine hK.out _ _ ?_
        clear hK K
        refine nm ?_
        refine tP 7 (some 93) (tb 13 255) ?_
        refine tP 8 (some 101) (tb 13 511) ?_
        refine tP 9 (some 102) (tb 13 1023) ?_
        refine tP 10 (some 103) (tb 13 2047) ?_
        refine tP 11 (some 11) (tb 13 4095) ?_
        refine last_ (i := 12) (N := none) (tb 13 8191) rfl rfl (by kernel_rfl) (by decide) (fun K hK => ?_)
        refine whole_step (cs' := #[.slice A1' N1' c1', .int .i64 (doV H a).row, .int .i64 (doV H a).col]) (by rfl) (.tmp 14) (.tmp 102) rfl rfl (by rfl) (by rfl) H6.out.1 rfl (by kernel_rfl) (by simp [Value.oneCell']; done) ?_
        intro w12 hx_ hg_
        have H12 := aS (H6.out.2 _ hg_ hx_)
        clear hx_ hg_
        refine hK.out _ _ ?_
        clear hK K
        refine done_ (by kernel_rfl) ?_
        all_goals go_wp2
        all_goals go_roundg (41 - (i + 1))
        all_goals first | (case measure => have := HK.out; omega) | (case rel => exact ⟨i + 1, g1, doV H a, _, O1', d1', rfl, by go_num, ⟨rfl, by omega⟩, H12⟩)
       ·have hT2 : decide (i < 40) = false := decide_eq_false h4
        have hT2' : decide ((i : Int) < 40) = false := decide_eq_false (by omega)
        clear hi h4 HK
        obtain ⟨Ay, Ny, cy, rfl⟩ := RD.slice HT.out.p.rd
        obtain ⟨q, hq⟩ : ∃ q, rSameV G H = q := ⟨_, rfl⟩
        have HGS := aS ((gSame_eq HT.out.q.gr.ok HT.out.p.gr.ok).trans hq)
        have HRS := Aside0.mk hq
        clear hq
        obtain ⟨y0, y1, y2⟩ := gcells HT.out.bx2
        obtain ⟨z0, z1, z2⟩ := gcells HT.out.bx
        go_wp2
        refine start_ (n := 24) (S := fun w' => w'.cell? ⟨b13, 0, none⟩ = some (.slice Ax Nx cx) ∧ w'.cell? ⟨b13, 1, none⟩ = some (.int .i64 G.row) ∧ w'.cell? ⟨b13, 2, none⟩ = some (.int .i64 G.col) ∧ w'.cell? ⟨b14, 0, none⟩ = some (.slice Ay Ny cy) ∧ w'.cell? ⟨b14, 1, none⟩ = some (.int .i64 H.row) ∧ w'.cell? ⟨b14, 2, none⟩ = some (.int .i64 H.col)) (ds := [7, 13, 17, 21]) (tb 24 0) (by kernel_rfl) rfl rfl ⟨y0, y1, y2, z0, z1, z2⟩ (fun hHeld => ?_)
        refine sO 0 (some 106) (tb 24 1) (fun K hK => ?_)
        refine gO Try.func64 #[] ?_
        with_reducible refine (known_any _).mono ?_
        rintro e wz2 ⟨rfl, hb⟩
        refine ⟨_, rfl, ?_⟩
        have T2 := aS ((HT.out.below bE).below hb)
        clear hb
        obtain ⟨y0, y1, y2⟩ := gcells T2.out.bx2
        obtain ⟨z0, z1, z2⟩ := gcells T2.out.bx
        refine hK.out _ _ ⟨y0, y1, y2, z0, z1, z2⟩ (fun hHeld => ?_)
        clear hK K
        refine nm ?_
        refine tP 1 (some 107) (tb 24 3) ?_
        refine tP 2 (some 108) (tb 24 7) ?_
        refine tP 3 (some 109) (tb 24 15) ?_
        refine tK 5 (some 111) (tb 24 47) ?_
        refine tK 6 (some 112) (tb 24 111) ?_
        refine sO 4 (some 110) (tb 24 127) (fun K hK => ?_)
        refine gO Try.func80 #[.pointer (some ⟨g, 0, none⟩), .pointer (some ⟨h, 0, none⟩)] ?_
        with_reducible refine (Same_any (T2.out.below bE).q.gr (T2.out.below bE).p.gr).mono ?_
        rintro e wz3 ⟨rfl, hb⟩
        refine ⟨_, rfl, ?_⟩
        rw [HGS.out]
        have T3 := aS ((T2.out.below bE).below hb)
        clear hb
        obtain ⟨y0, y1, y2⟩ := gcells T3.out.bx2
        obtain ⟨z0, z1, z2⟩ := gcells T3.out.bx
        refine hK.out _ _ ⟨y0, y1, y2, z0, z1, z2⟩ (fun hHeld => ?_)
        clear hK K
        refine nm ?_
        refine last_ (i := 7) (N := some 113) (tb 24 255) rfl rfl (by kernel_rfl) (by decide) (fun K hK => ?_)
        refine gO Try.func81 #[gV (.slice Ax Nx cx) G, gV (.slice Ay Ny cy) H] ?_
        with_reducible refine (rgSame_any HT.out.q.gr.ok (T3.out.below bE).q.rd (T3.out.below bE).p.rd).mono ?_
        rintro e wz4 ⟨rfl, hb⟩
        refine ⟨_, rfl, ?_⟩
        rw [HRS.out]
        have T4 := aS ((T3.out.below bE).below hb)
        clear hb
        refine hK.out _ _ ?_
        clear hK K
        refine nm ?_
        refine tP 8 (some 114) (tb 24 511) ?_
        refine tP 9 (some 115) (tb 24 1023) ?_
        refine tP 10 (some 116) (tb 24 2047) ?_
        refine tP 11 (some 117) (tb 24 4095) ?_
        refine tP 12 (some 118) (tb 24 8191) ?_
        refine last_ (i := 13) (N := some 119) (tb 24 16383) rfl rfl (by kernel_rfl) (by decide) (fun K hK => ?_)
        refine gO Try.func80 #[.pointer (some ⟨g, 0, none⟩), .pointer (some ⟨g, 0, none⟩)] ?_
        with_reducible refine (Same_any (T4.out.below bE).q.gr (T4.out.below bE).q.gr).mono ?_
        rintro e wz5 ⟨rfl, hb⟩
        refine ⟨_, rfl, ?_⟩
        rw [gSame_self]
        have T5 := aS ((T4.out.below bE).below hb)
        clear hb
        refine hK.out _ _ ?_
        clear hK K
        refine nm ?_
        refine tP 14 (some 120) (tb 24 32767) ?_
        refine tP 15 (some 121) (tb 24 65535) ?_
        refine tP 16 (some 122) (tb 24 131071) ?_
        refine last_ (i := 17) (N := some 123) (tb 24 262143) rfl rfl (by kernel_rfl) (by decide) (fun K hK => ?_)
        refine gO Try.func80 #[.pointer (some ⟨g, 0, none⟩), .pointer none] ?_
        with_reducible refine (Same_nil1 (T5.out.below bE).q.gr).mono ?_
        rintro e wz6 ⟨rfl, hb⟩
        refine ⟨_, rfl, ?_⟩
        have T6 := aS ((T5.out.below bE).below hb)
        clear hb
        refine hK.out _ _ ?_
        clear hK K
        refine nm ?_
        refine tP 18 (some 124) (tb 24 524287) ?_
        refine tP 19 (some 125) (tb 24 1048575) ?_
        refine tP 20 (some 126) (tb 24 2097151) ?_
        refine last_ (i := 21) (N := some 127) (tb 24 4194303) rfl rfl (by kernel_rfl) (by decide) (fun K hK => ?_)
        refine gO Try.func80 #[.pointer none, .pointer none] ?_
        with_reducible refine (Same_nil2).mono ?_
        rintro e wz7 ⟨rfl, hb⟩
        refine ⟨_, rfl, ?_⟩
        have T7 := aS ((T6.out.below bE).below hb)
        clear hb
        refine hK.out _ _ ?_
        clear hK K
        refine nm ?_
        refine tP 22 (some 128) (tb 24 8388607) ?_
        refine tP 23 (some 8) (tb 24 16777215) ?_
        refine done_ (by kernel_rfl) ?_
        all_goals go_wp2
        all_goals go_ret
        all_goals exact ⟨by simp, (T7.out.below bE).bel⟩
      ·have hT1 : decide (i < N2) = false := decide_eq_false hi
       have hT1' : decide ((i : Int) < (N2 : Int)) = false := decide_eq_false (by omega)
       clear hi HK
       obtain ⟨Ay, Ny, cy, rfl⟩ := RD.slice HT.out.p.rd
       obtain ⟨q, hq⟩ : ∃ q, rSameV G H = q := ⟨_, rfl⟩
       have HGS := aS ((gSame_eq HT.out.q.gr.ok HT.out.p.gr.ok).trans hq)
       have HRS := Aside0.mk hq
       clear hq
       obtain ⟨y0, y1, y2⟩ := gcells HT.out.bx2
       obtain ⟨z0, z1, z2⟩ := gcells HT.out.bx
       go_wp2
       refine start_ (n := 24) (S := fun w' => w'.cell? ⟨b13, 0, none⟩ = some (.slice Ax Nx cx) ∧ w'.cell? ⟨b13, 1, none⟩ = some (.int .i64 G.row) ∧ w'.cell? ⟨b13, 2, none⟩ = some (.int .i64 G.col) ∧ w'.cell? ⟨b14, 0, none⟩ = some (.slice Ay Ny cy) ∧ w'.cell? ⟨b14, 1, none⟩ = some (.int .i64 H.row) ∧ w'.cell? ⟨b14, 2, none⟩ = some (.int .i64 H.col)) (ds := [7, 13, 17, 21]) (tb 24 0) (by kernel_rfl) rfl rfl ⟨y0, y1, y2, z0, z1, z2⟩ (fun hHeld => ?_)
       refine sO 0 (some 106) (tb 24 1) (fun K hK => ?_)
       refine gO Try.func64 #[] ?_
       with_reducible refine (known_any _).mono ?_
       rintro e wz2 ⟨rfl, hb⟩
       refine ⟨_, rfl, ?_⟩
       have T2 := aS ((HT.out.below bE).below hb)
       clear hb
       obtain ⟨y0, y1, y2⟩ := gcells T2.out.bx2
       obtain ⟨z0, z1, z2⟩ := gcells T2.out.bx
       refine hK.out _ _ ⟨y0, y1, y2, z0, z1, z2⟩ (fun hHeld => ?_)
       clear hK K
       refine nm ?_
       refine tP 1 (some 107) (tb 24 3) ?_
       refine tP 2 (some 108) (tb 24 7) ?_
       refine tP 3 (some 109) (tb 24 15) ?_
       refine tK 5 (some 111) (tb 24 47) ?_
       refine tK 6 (some 112) (tb 24 111) ?_
       refine sO 4 (some 110) (tb 24 127) (fun K hK => ?_)
       refine gO Try.func80 #[.pointer (some ⟨g, 0, none⟩), .pointer (some ⟨h, 0, none⟩)] ?_
       with_reducible refine (Same_any (T2.out.below bE).q.gr (T2.out.below bE).p.gr).mono ?_
       rintro e wz3 ⟨rfl, hb⟩
       refine ⟨_, rfl, ?_⟩
       rw [HGS.out]
       have T3 := aS ((T2.out.below bE).below hb)
       clear hb
       obtain ⟨y0, y1, y2⟩ := gcells T3.out.bx2
       obtain ⟨z0, z1, z2⟩ := gcells T3.out.bx
       refine hK.out _ _ ⟨y0, y1, y2, z0, z1, z2⟩ (fun hHeld => ?_)
       clear hK K
       refine nm ?_
       refine last_ (i := 7) (N := some 113) (tb 24 255) rfl rfl (by kernel_rfl) (by decide) (fun K hK => ?_)
       refine gO Try.func81 #[gV (.slice Ax Nx cx) G, gV (.slice Ay Ny cy) H] ?_
       with_reducible refine (rgSame_any HT.out.q.gr.ok (T3.out.below bE).q.rd (T3.out.below bE).p.rd).mono ?_
       rintro e wz4 ⟨rfl, hb⟩
       refine ⟨_, rfl, ?_⟩
       rw [HRS.out]
       have T4 := aS ((T3.out.below bE).below hb)
       clear hb
       refine hK.out _ _ ?_
       clear hK K
       refine nm ?_
       refine tP 8 (some 114) (tb 24 511) ?_
       refine tP 9 (some 115) (tb 24 1023) ?_
       refine tP 10 (some 116) (tb 24 2047) ?_
       refine tP 11 (some 117) (tb 24 4095) ?_
       refine tP 12 (some 118) (tb 24 8191) ?_
       refine last_ (i := 13) (N := some 119) (tb 24 16383) rfl rfl (by kernel_rfl) (by decide) (fun K hK => ?_)
       refine gO Try.func80 #[.pointer (some ⟨g, 0, none⟩), .pointer (some ⟨g, 0, none⟩)] ?_
       with_reducible refine (Same_any (T4.out.below bE).q.gr (T4.out.below bE).q.gr).mono ?_
       rintro e wz5 ⟨rfl, hb⟩
       refine ⟨_, rfl, ?_⟩
       rw [gSame_self]
       have T5 := aS ((T4.out.below bE).below hb)
       clear hb
       refine hK.out _ _ ?_
       clear hK K
       refine nm ?_
       refine tP 14 (some 120) (tb 24 32767) ?_
       refine tP 15 (some 121) (tb 24 65535) ?_
       refine tP 16 (some 122) (tb 24 131071) ?_
       refine last_ (i := 17) (N := some 123) (tb 24 262143) rfl rfl (by kernel_rfl) (by decide) (fun K hK => ?_)
       refine gO Try.func80 #[.pointer (some ⟨g, 0, none⟩), .pointer none] ?_
       with_reducible refine (Same_nil1 (T5.out.below bE).q.gr).mono ?_
       rintro e wz6 ⟨rfl, hb⟩
       refine ⟨_, rfl, ?_⟩
       have T6 := aS ((T5.out.below bE).below hb)
       clear hb
       refine hK.out _ _ ?_
       clear hK K
       refine nm ?_
       refine tP 18 (some 124) (tb 24 524287) ?_
       refine tP 19 (some 125) (tb 24 1048575) ?_
       refine tP 20 (some 126) (tb 24 2097151) ?_
       refine last_ (i := 21) (N := some 127) (tb 24 4194303) rfl rfl (by kernel_rfl) (by decide) (fun K hK => ?_)
       refine gO Try.func80 #[.pointer none, .pointer none] ?_
       with_reducible refine (Same_nil2).mono ?_
       rintro e wz7 ⟨rfl, hb⟩
       refine ⟨_, rfl, ?_⟩
       have T7 := aS ((T6.out.below bE).below hb)
       clear hb
       refine hK.out _ _ ?_
       clear hK K
       refine nm ?_
       refine tP 22 (some 128) (tb 24 8388607) ?_
       refine tP 23 (some 8) (tb 24 16777215) ?_
       refine done_ (by kernel_rfl) ?_
       all_goals go_wp2
       all_goals go_ret
       all_goals exact ⟨by simp, (T7.out.below bE).bel⟩
   ·have hT1 : decide (i < N1) = false := decide_eq_false hi
    have hT1' : decide ((i : Int) < (N1 : Int)) = false := decide_eq_false (by omega)
    clear hi
    obtain ⟨Ax, Nx, cx, rfl⟩ := RD.slice HT.out.p.rd
    have HT1 := Aside0.mk HT.out.swap
    clear HT HK
    go_wp2
    go_loopg [11, 16] 41 (fun kq v11 v16 w' => ∃ (i h : Nat) (H : GV) (v2 : Value) (O2 d2 : Nat → Prop), v11 = .pointer (some ⟨h, 0, none⟩) ∧ v16 = .int .i64 i ∧ Aside0 (kq = 41 - i ∧ i ≤ 40) ∧ Aside0 (TW w w' O2 d2 O d h g H G v2 (.slice Ax Nx cx) b14 b13))
    case atStart => exact ⟨0, gb, G0, _, O2, d2, rfl, by go_num, ⟨by omega, by omega⟩, HT1⟩
    case round =>
     clear HT1
     obtain ⟨i, h, H, v2, O2, d2, rfl, rfl, HK, HT⟩ := hrel
     by_cases hi : i < N2
     ·have hT1 : decide (i < N2) = true := decide_eq_true hi
      have hT1' : decide ((i : Int) < (N2 : Int)) = true := decide_eq_true (by omega)
      by_cases h4 : i < 40
      ·have hT2 : decide (i < 40) = true := decide_eq_true h4
       have hT2' : decide ((i : Int) < 40) = true := decide_eq_true (by omega)
       have hw1 : wrap64 ((i : Int) + 1) = ((i + 1 : Nat) : Int) := by rw [w64 (by omega) (by omega)]; omega
       obtain ⟨Av, Nv, cv, rfl⟩ := RD.slice HT.out.p.rd
       obtain ⟨x, hx⟩ : ∃ x, bcts[i]? = some x := ⟨_, List.getElem?_eq_getElem (by rw [HN2.out]; exact hi)⟩
       have ha := aw_of (HQ2.out x (List.mem_of_getElem? hx))
       obtain ⟨ad, Al, cl, rfl, ⟨hcl, hCl⟩, x0, x1, x2, x3, x4, x5, x6, x7, x8, x9, x10, x11, x12, x13, x14, x15⟩ := at_Act HC2.out i x hx
       clear hx
       obtain ⟨a, hta⟩ : ∃ a, toA x = a := ⟨_, rfl⟩
       rw [hta] at ha hcl hCl x0 x1 x2 x3 x4 x5 x6 x7 x8 x9 x10 x11 x12 x13 x14 x15
       clear hta
       obtain ⟨n, hn⟩ : ∃ n, a.l.length = n := ⟨_, rfl⟩
       rw [hn] at hcl hCl x15
       have HA := aS (And.intro ha (And.intro hn.symm (And.intro hcl hCl)))
       clear ha hn hcl hCl
       replace x0 := (HT.out.bel.cell (World.block_lt_of_cell? w _ x0)).trans x0
       replace x1 := (HT.out.bel.cell (World.block_lt_of_cell? w _ x1)).trans x1
       replace x2 := (HT.out.bel.cell (World.block_lt_of_cell? w _ x2)).trans x2
       replace x3 := (HT.out.bel.cell (World.block_lt_of_cell? w _ x3)).trans x3
       replace x4 := (HT.out.bel.cell (World.block_lt_of_cell? w _ x4)).trans x4
       replace x5 := (HT.out.bel.cell (World.block_lt_of_cell? w _ x5)).trans x5
       replace x6 := (HT.out.bel.cell (World.block_lt_of_cell? w _ x6)).trans x6
       replace x7 := (HT.out.bel.cell (World.block_lt_of_cell? w _ x7)).trans x7
       replace x8 := (HT.out.bel.cell (World.block_lt_of_cell? w _ x8)).trans x8
       replace x9 := (HT.out.bel.cell (World.block_lt_of_cell? w _ x9)).trans x9
       replace x10 := (HT.out.bel.cell (World.block_lt_of_cell? w _ x10)).trans x10
       replace x11 := (HT.out.bel.cell (World.block_lt_of_cell? w _ x11)).trans x11
       replace x12 := (HT.out.bel.cell (World.block_lt_of_cell? w _ x12)).trans x12
       replace x13 := (HT.out.bel.cell (World.block_lt_of_cell? w _ x13)).trans x13
       replace x14 := (HT.out.bel.cell (World.block_lt_of_cell? w _ x14)).trans x14
       replace x15 := (HT.out.bel.cell (World.block_lt_of_cell? w _ x15)).trans x15
       obtain ⟨y0, y1, y2⟩ := gcells HT.out.bx
       go_wp2
       refine start_ (n := 13) (S := fun w' => w'.cell? ⟨b14, 0, none⟩ = some (.slice Av Nv cv) ∧ w'.cell? ⟨b14, 1, none⟩ = some (.int .i64 H.row) ∧ w'.cell? ⟨b14, 2, none⟩ = some (.int .i64 H.col) ∧ w'.cell? (ad.add (i * 16)) = some (.int .i64 a.k) ∧ w'.cell? ⟨(ad.add (i * 16)).block, (ad.add (i * 16)).off + 1, none⟩ = some (.int .i64 a.r) ∧ w'.cell? ⟨(ad.add (i * 16)).block, (ad.add (i * 16)).off + 2, none⟩ = some (.int .i64 a.c) ∧ w'.cell? ⟨(ad.add (i * 16)).block, (ad.add (i * 16)).off + 3, none⟩ = some (.int .i64 a.t) ∧ w'.cell? ⟨(ad.add (i * 16)).block, (ad.add (i * 16)).off + 4, none⟩ = some (.int .i32 a.x.f0) ∧ w'.cell? ⟨(ad.add (i * 16)).block, (ad.add (i * 16)).off + 5, none⟩ = some (.int .i32 a.x.f1.f0) ∧ w'.cell? ⟨(ad.add (i * 16)).block, (ad.add (i * 16)).off + 6, none⟩ = some (.int .i32 a.x.f1.f1) ∧ w'.cell? ⟨(ad.add (i * 16)).block, (ad.add (i * 16)).off + 7, none⟩ = some (.int .u8 a.x.f2) ∧ w'.cell? ⟨(ad.add (i * 16)).block, (ad.add (i * 16)).off + 8, none⟩ = some (.int .u8 a.x.f3.f0) ∧ w'.cell? ⟨(ad.add (i * 16)).block, (ad.add (i * 16)).off + 9, none⟩ = some (.int .u8 a.x.f3.f1) ∧ w'.cell? ⟨(ad.add (i * 16)).block, (ad.add (i * 16)).off + 10, none⟩ = some (.int .u8 a.x.f3.f2) ∧ w'.cell? ⟨(ad.add (i * 16)).block, (ad.add (i * 16)).off + 11, none⟩ = some (.int .i32 a.m) ∧ w'.cell? ⟨(ad.add (i * 16)).block, (ad.add (i * 16)).off + 12, none⟩ = some (.int .u8 a.p0) ∧ w'.cell? ⟨(ad.add (i * 16)).block, (ad.add (i * 16)).off + 13, none⟩ = some (.int .u8 a.p1) ∧ w'.cell? ⟨(ad.add (i * 16)).block, (ad.add (i * 16)).off + 14, none⟩ = some (.int .u8 a.p2) ∧ w'.cell? ⟨(ad.add (i * 16)).block, (ad.add (i * 16)).off + 15, none⟩ = some (.slice Al n cl)) (ds := [6, 12]) (tb 13 0) (by kernel_rfl) rfl rfl ⟨y0, y1, y2, x0, x1, x2, x3, x4, x5, x6, x7, x8, x9, x10, x11, x12, x13, x14, x15⟩ (fun hHeld => ?_)
       refine tP 0 (some 94) (tb 13 1) ?_
       refine tP 2 (some 96) (tb 13 5) ?_
       refine tP 3 (some 97) (tb 13 13) ?_
       refine tP 4 (some 98) (tb 13 29) ?_
       refine tK 1 (some 95) (tb 13 31) ?_
       refine tK 5 (some 99) (tb 13 63) ?_
       refine last_ (i := 6) (N := some 100) (tb 13 127) rfl rfl (by kernel_rfl) (by decide) (fun K hK => ?_)
       refine gO Try.func79 #[.pointer (some ⟨h, 0, none⟩), gV (.slice Av Nv cv) H, actV a Al n cl] ?_
       with_reducible refine (HT.out.do_ bE a HA.out.1 HA.out.2.1 HA.out.2.2.1 HA.out.2.2.2).mono ?_
       rintro e wc ⟨g1, A1', N1', c1', O1', d1', rfl, b1, hk⟩
       refine ⟨_, rfl, ?_⟩
       have H6 := aS (And.intro b1 hk)
       clear b1 hk
       refine hK.out _ _ ?_
       clear hK K
       refine nm ?_
       refine tP 7 (some 93) (tb 13 255) ?_
       refine tP 8 (some 101) (tb 13 511) ?_
       refine tP 9 (some 102) (tb 13 1023) ?_
       refine tP 10 (some 103) (tb 13 2047) ?_
       refine tP 11 (some 11) (tb 13 4095) ?_
       refine last_ (i := 12) (N := none) (tb 13 8191) rfl rfl (by kernel_rfl) (by decide) (fun K hK => ?_)
       refine whole_step (cs' := #[.slice A1' N1' c1', .int .i64 (doV H a).row, .int .i64 (doV H a).col]) (by rfl) (.tmp 14) (.tmp 102) rfl rfl (by rfl) (by rfl) H6.out.1 rfl (by kernel_rfl) (by simp [Value.oneCell']; done) ?_
       intro w12 hx_ hg_
       have H12 := aS (H6.out.2 _ hg_ hx_)
       clear hx_ hg_
       refine hK.out _ _ ?_
       clear hK K
       refine done_ (by kernel_rfl) ?_
       all_goals go_wp2
       all_goals go_roundg (41 - (i + 1))
       all_goals first | (case measure => have := HK.out; omega) | (case rel => exact ⟨i + 1, g1, doV H a, _, O1', d1', rfl, by go_num, ⟨rfl, by omega⟩, H12⟩)
      ·have hT2 : decide (i < 40) = false := decide_eq_false h4
       have hT2' : decide ((i : Int) < 40) = false := decide_eq_false (by omega)
       clear hi h4 HK
       obtain ⟨Ay, Ny, cy, rfl⟩ := RD.slice HT.out.p.rd
       obtain ⟨q, hq⟩ : ∃ q, rSameV G H = q := ⟨_, rfl⟩
       have HGS := aS ((gSame_eq HT.out.q.gr.ok HT.out.p.gr.ok).trans hq)
       have HRS := Aside0.mk hq
       clear hq
       obtain ⟨y0, y1, y2⟩ := gcells HT.out.bx2
       obtain ⟨z0, z1, z2⟩ := gcells HT.out.bx
       go_wp2
       refine start_ (n := 24) (S := fun w' => w'.cell? ⟨b13, 0, none⟩ = some (.slice Ax Nx cx) ∧ w'.cell? ⟨b13, 1, none⟩ = some (.int .i64 G.row) ∧ w'.cell? ⟨b13, 2, none⟩ = some (.int .i64 G.col) ∧ w'.cell? ⟨b14, 0, none⟩ = some (.slice Ay Ny cy) ∧ w'.cell? ⟨b14, 1, none⟩ = some (.int .i64 H.row) ∧ w'.cell? ⟨b14, 2, none⟩ = some (.int .i64 H.col)) (ds := [7, 13, 17, 21]) (tb 24 0) (by kernel_rfl) rfl rfl ⟨y0, y1, y2, z0, z1, z2⟩ (fun hHeld => ?_)
       refine sO 0 (some 106) (tb 24 1) (fun K hK => ?_)
       refine gO Try.func64 #[] ?_
       with_reducible refine (known_any _).mono ?_
       rintro e wz2 ⟨rfl, hb⟩
       refine ⟨_, rfl, ?_⟩
       have T2 := aS ((HT.out.below bE).below hb)
       clear hb
       obtain ⟨y0, y1, y2⟩ := gcells T2.out.bx2
       obtain ⟨z0, z1, z2⟩ := gcells T2.out.bx
       refine hK.out _ _ ⟨y0, y1, y2, z0, z1, z2⟩ (fun hHeld => ?_)
       clear hK K
       refine nm ?_
       refine tP 1 (some 107) (tb 24 3) ?_
       refine tP 2 (some 108) (tb 24 7) ?_
       refine tP 3 (some 109) (tb 24 15) ?_
       refine tK 5 (some 111) (tb 24 47) ?_
       refine tK 6 (some 112) (tb 24 111) ?_
       refine sO 4 (some 110) (tb 24 127) (fun K hK => ?_)
       refine gO Try.func80 #[.pointer (some ⟨g, 0, none⟩), .pointer (some ⟨h, 0, none⟩)] ?_
       with_reducible refine (Same_any (T2.out.below bE).q.gr (T2.out.below bE).p.gr).mono ?_
       rintro e wz3 ⟨rfl, hb⟩
       refine ⟨_, rfl, ?_⟩
       rw [HGS.out]
       have T3 := aS ((T2.out.below bE).below hb)
       clear hb
       obtain ⟨y0, y1, y2⟩ := gcells T3.out.bx2
       obtain ⟨z0, z1, z2⟩ := gcells T3.out.bx
       refine hK.out _ _ ⟨y0, y1, y2, z0, z1, z2⟩ (fun hHeld => ?_)
       clear hK K
       refine nm ?_
       refine last_ (i := 7) (N := some 113) (tb 24 255) rfl rfl (by kernel_rfl) (by decide) (fun K hK => ?_)
       refine gO Try.func81 #[gV (.slice Ax Nx cx) G, gV (.slice Ay Ny cy) H] ?_
       with_reducible refine (rgSame_any HT.out.q.gr.ok (T3.out.below bE).q.rd (T3.out.below bE).p.rd).mono ?_
       rintro e wz4 ⟨rfl, hb⟩
       refine ⟨_, rfl, ?_⟩
       rw [HRS.out]
       have T4 := aS ((T3.out.below bE).below hb)
       clear hb
       refine hK.out _ _ ?_
       clear hK K
       refine nm ?_
       refine tP 8 (some 114) (tb 24 511) ?_
       refine tP 9 (some 115) (tb 24 1023) ?_
       refine tP 10 (some 116) (tb 24 2047) ?_
       refine tP 11 (some 117) (tb 24 4095) ?_
       refine tP 12 (some 118) (tb 24 8191) ?_
       refine last_ (i := 13) (N := some 119) (tb 24 16383) rfl rfl (by kernel_rfl) (by decide) (fun K hK => ?_)
       refine gO Try.func80 #[.pointer (some ⟨g, 0, none⟩), .pointer (some ⟨g, 0, none⟩)] ?_
       with_reducible refine (Same_any (T4.out.below bE).q.gr (T4.out.below bE).q.gr).mono ?_
       rintro e wz5 ⟨rfl, hb⟩
       refine ⟨_, rfl, ?_⟩
       rw [gSame_self]
       have T5 := aS ((T4.out.below bE).below hb)
       clear hb
       refine hK.out _ _ ?_
       clear hK K
       refine nm ?_
       refine tP 14 (some 120) (tb 24 32767) ?_
       refine tP 15 (some 121) (tb 24 65535) ?_
       refine tP 16 (some 122) (tb 24 131071) ?_
       refine last_ (i := 17) (N := some 123) (tb 24 262143) rfl rfl (by kernel_rfl) (by decide) (fun K hK => ?_)
       refine gO Try.func80 #[.pointer (some ⟨g, 0, none⟩), .pointer none] ?_
       with_reducible refine (Same_nil1 (T5.out.below bE).q.gr).mono ?_
       rintro e wz6 ⟨rfl, hb⟩
       refine ⟨_, rfl, ?_⟩
       have T6 := aS ((T5.out.below bE).below hb)
       clear hb
       refine hK.out _ _ ?_
       clear hK K
       refine nm ?_
       refine tP 18 (some 124) (tb 24 524287) ?_
       refine tP 19 (some 125) (tb 24 1048575) ?_
       refine tP 20 (some 126) (tb 24 2097151) ?_
       refine last_ (i := 21) (N := some 127) (tb 24 4194303) rfl rfl (by kernel_rfl) (by decide) (fun K hK => ?_)
       refine gO Try.func80 #[.pointer none, .pointer none] ?_
       with_reducible refine (Same_nil2).mono ?_
       rintro e wz7 ⟨rfl, hb⟩
       refine ⟨_, rfl, ?_⟩
       have T7 := aS ((T6.out.below bE).below hb)
       clear hb
       refine hK.out _ _ ?_
       clear hK K
       refine nm ?_
       refine tP 22 (some 128) (tb 24 8388607) ?_
       refine tP 23 (some 8) (tb 24 16777215) ?_
       refine done_ (by kernel_rfl) ?_
       all_goals go_wp2
       all_goals go_ret
       all_goals exact ⟨by simp, (T7.out.below bE).bel⟩
     ·have hT1 : decide (i < N2) = false := decide_eq_false hi
      have hT1' : decide ((i : Int) < (N2 : Int)) = false := decide_eq_false (by omega)
      clear hi HK
      obtain ⟨Ay, Ny, cy, rfl⟩ := RD.slice HT.out.p.rd
      obtain ⟨q, hq⟩ : ∃ q, rSameV G H = q := ⟨_, rfl⟩
      have HGS := aS ((gSame_eq HT.out.q.gr.ok HT.out.p.gr.ok).trans hq)
      have HRS := Aside0.mk hq
      clear hq
      obtain ⟨y0, y1, y2⟩ := gcells HT.out.bx2
      obtain ⟨z0, z1, z2⟩ := gcells HT.out.bx
      go_wp2
      refine start_ (n := 24) (S := fun w' => w'.cell? ⟨b13, 0, none⟩ = some (.slice Ax Nx cx) ∧ w'.cell? ⟨b13, 1, none⟩ = some (.int .i64 G.row) ∧ w'.cell? ⟨b13, 2, none⟩ = some (.int .i64 G.col) ∧ w'.cell? ⟨b14, 0, none⟩ = some (.slice Ay Ny cy) ∧ w'.cell? ⟨b14, 1, none⟩ = some (.int .i64 H.row) ∧ w'.cell? ⟨b14, 2, none⟩ = some (.int .i64 H.col)) (ds := [7, 13, 17, 21]) (tb 24 0) (by kernel_rfl) rfl rfl ⟨y0, y1, y2, z0, z1, z2⟩ (fun hHeld => ?_)
      refine sO 0 (some 106) (tb 24 1) (fun K hK => ?_)
      refine gO Try.func64 #[] ?_
      with_reducible refine (known_any _).mono ?_
      rintro e wz2 ⟨rfl, hb⟩
      refine ⟨_, rfl, ?_⟩
      have T2 := aS ((HT.out.below bE).below hb)
      clear hb
      obtain ⟨y0, y1, y2⟩ := gcells T2.out.bx2
      obtain ⟨z0, z1, z2⟩ := gcells T2.out.bx
      refine hK.out _ _ ⟨y0, y1, y2, z0, z1, z2⟩ (fun hHeld => ?_)
      clear hK K
      refine nm ?_
      refine tP 1 (some 107) (tb 24 3) ?_
      refine tP 2 (some 108) (tb 24 7) ?_
      refine tP 3 (some 109) (tb 24 15) ?_
      refine tK 5 (some 111) (tb 24 47) ?_
      refine tK 6 (some 112) (tb 24 111) ?_
      refine sO 4 (some 110) (tb 24 127) (fun K hK => ?_)
      refine gO Try.func80 #[.pointer (some ⟨g, 0, none⟩), .pointer (some ⟨h, 0, none⟩)] ?_
      with_reducible refine (Same_any (T2.out.below bE).q.gr (T2.out.below bE).p.gr).mono ?_
      rintro e wz3 ⟨rfl, hb⟩
      refine ⟨_, rfl, ?_⟩
      rw [HGS.out]
      have T3 := aS ((T2.out.below bE).below hb)
      clear hb
      obtain ⟨y0, y1, y2⟩ := gcells T3.out.bx2
      obtain ⟨z0, z1, z2⟩ := gcells T3.out.bx
      refine hK.out _ _ ⟨y0, y1, y2, z0, z1, z2⟩ (fun hHeld => ?_)
      clear hK K
      refine nm ?_
      refine last_ (i := 7) (N := some 113) (tb 24 255) rfl rfl (by kernel_rfl) (by decide) (fun K hK => ?_)
      refine gO Try.func81 #[gV (.slice Ax Nx cx) G, gV (.slice Ay Ny cy) H] ?_
      with_reducible refine (rgSame_any HT.out.q.gr.ok (T3.out.below bE).q.rd (T3.out.below bE).p.rd).mono ?_
      rintro e wz4 ⟨rfl, hb⟩
      refine ⟨_, rfl, ?_⟩
      rw [HRS.out]
      have T4 := aS ((T3.out.below bE).below hb)
      clear hb
      refine hK.out _ _ ?_
      clear hK K
      refine nm ?_
      refine tP 8 (some 114) (tb 24 511) ?_
      refine tP 9 (some 115) (tb 24 1023) ?_
      refine tP 10 (some 116) (tb 24 2047) ?_
      refine tP 11 (some 117) (tb 24 4095) ?_
      refine tP 12 (some 118) (tb 24 8191) ?_
      refine last_ (i := 13) (N := some 119) (tb 24 16383) rfl rfl (by kernel_rfl) (by decide) (fun K hK => ?_)
      refine gO Try.func80 #[.pointer (some ⟨g, 0, none⟩), .pointer (some ⟨g, 0, none⟩)] ?_
      with_reducible refine (Same_any (T4.out.below bE).q.gr (T4.out.below bE).q.gr).mono ?_
      rintro e wz5 ⟨rfl, hb⟩
      refine ⟨_, rfl, ?_⟩
      rw [gSame_self]
      have T5 := aS ((T4.out.below bE).below hb)
      clear hb
      refine hK.out _ _ ?_
      clear hK K
      refine nm ?_
      refine tP 14 (some 120) (tb 24 32767) ?_
      refine tP 15 (some 121) (tb 24 65535) ?_
      refine tP 16 (some 122) (tb 24 131071) ?_
      refine last_ (i := 17) (N := some 123) (tb 24 262143) rfl rfl (by kernel_rfl) (by decide) (fun K hK => ?_)
      refine gO Try.func80 #[.pointer (some ⟨g, 0, none⟩), .pointer none] ?_
      with_reducible refine (Same_nil1 (T5.out.below bE).q.gr).mono ?_
      rintro e wz6 ⟨rfl, hb⟩
      refine ⟨_, rfl, ?_⟩
      have T6 := aS ((T5.out.below bE).below hb)
      clear hb
      refine hK.out _ _ ?_
      clear hK K
      refine nm ?_
      refine tP 18 (some 124) (tb 24 524287) ?_
      refine tP 19 (some 125) (tb 24 1048575) ?_
      refine tP 20 (some 126) (tb 24 2097151) ?_
      refine last_ (i := 21) (N := some 127) (tb 24 4194303) rfl rfl (by kernel_rfl) (by decide) (fun K hK => ?_)
      refine gO Try.func80 #[.pointer none, .pointer none] ?_
      with_reducible refine (Same_nil2).mono ?_
      rintro e wz7 ⟨rfl, hb⟩
      refine ⟨_, rfl, ?_⟩
      have T7 := aS ((T6.out.below bE).below hb)
      clear hb
      refine hK.out _ _ ?_
      clear hK K
      refine nm ?_
      refine tP 22 (some 128) (tb 24 8388607) ?_
      refine tP 23 (some 8) (tb 24 16777215) ?_
      refine done_ (by kernel_rfl) ?_
      all_goals go_wp2
      all_goals go_ret
      all_goals exact ⟨by simp, (T7.out.below bE).bel⟩
 ·have HZ := aS (Bool.eq_false_iff.2 hz)
  clear hz
  go_enter Try.func11, Try.ntmps11
  go_wp2_with (first | (go_at_call 75; with_reducible refine (prolepsislaw07_small.calls r sr w HSR.out).mono ?_; rintro e w1 ⟨rfl, hd⟩; have H1 := Aside0.mk hd.below; clear hd) | (go_at_call 75; with_reducible refine (prolepsislaw07_small.calls c sc w1 HSC.out).mono ?_; rintro e w2 ⟨rfl, hd⟩; have H2 := aS (below_step H1.out hd.below); clear hd) | (go_at_call 76; with_reducible refine (New_no sr sc HZ.out w2).mono ?_; rintro e w3 ⟨rfl, hb⟩; have H3 := aS (below_step H2.out hb); clear hb) | (go_at_call 76; with_reducible refine (New_no sr sc HZ.out w3).mono ?_; rintro e w4 ⟨rfl, hb⟩; have H4 := aS (below_step H3.out hb); clear hb) | (go_at_call 64; refine (known_any w4).mono ?_; rintro e w5 ⟨rfl, hb⟩; have H5 := aS (below_step H4.out hb); clear hb) | (go_at_call 77; refine (prolepsisref07_Size.calls sr sc _ w5 (rsize_ok sr sc)).mono ?_; rintro e w6 ⟨rfl, hd⟩; rw [HZ.out]; have H6 := aS (below_step H5.out hd.below); clear hd))
  all_goals go_ret
  all_goals exact ⟨rfl, H6.out⟩
theorem own_GridSame : ownKnob Try.prog.godebug = none := by kernel_rfl
theorem laidOut_GridSame : laidOutB Try.prog = true := by kernel_rfl
set_option maxRecDepth 100000 in
theorem lifted_GridSame (os : Os) (started : os.Started) (H : Type) (enc : TypeId × Value → H) :
 ReturnsInHanded {} Try.checked os 11 .any (Rows.gridSameSpec.pre6 enc Try.prog Try.f11 Rows.gridSameRow.domain false) (Rows.gridSameSpec.post enc Try.prog Try.f11 false true false false) := by
 refine returnsInHanded_of_change (C := Try.checked) own_GridSame started (by kernel_rfl) Try.func11
  (ChangeSpec.witness6 (enc := enc) (C := Try.checked) false ⟨#[], #[.int .i64 0, .int .i64 0, .slice none 0 0, .slice none 0 0], []⟩ 8 (by kernel_rfl) (by kernel_rfl) (by kernel_rfl) (by kernel_rfl)) ?_
 intro W base args ds gs before hval0 hW hcnd _
 have hval : ∀ (j : Nat) t v, Try.f11.params[j]? = some t → args[j]? = some v → Value.okWide Try.prog W .any base t v := hval0
 have hW' := hW
 obtain ⟨p, q, hA0, hV, rfl, hfz, hnd⟩ := hW
 have hA : DataW.TrodAll enc Try.prog W 0 (fun _ => true) true Try.f11.params.toList args.toList ds p := hA0
 rw [Try.params11] at hA hval
 obtain ⟨v0, vs0, d0, ds0, p0, q0, hargs, rfl, rfl, h0, r0⟩ := trodAll_cons hA
 obtain ⟨v1, vs1, d1, ds1, p1, q1, rfl, rfl, rfl, h1, r1⟩ := trodAll_cons r0
 obtain ⟨v2, vs2, d2, ds2, p2, q2, rfl, rfl, rfl, h2, r2⟩ := trodAll_cons r1
 obtain ⟨v3, vs3, d3, ds3, p3, q3, rfl, rfl, rfl, h3, r3⟩ := trodAll_cons r2
 obtain ⟨rfl, rfl, rfl⟩ := trodAll_nil r3
 obtain rfl : args = #[v0, v1, v2, v3] := by cases args; simp_all
 obtain ⟨rfl, rfl⟩ := trodVars_none hV
 obtain ⟨a0, rfl, rfl, rfl, w0⟩ := open_int Try.underlying3 (hval 0 3 v0 rfl rfl) h0
 obtain ⟨a1, rfl, rfl, rfl, w1⟩ := open_int Try.underlying3 (hval 1 3 v1 rfl rfl) h1
 obtain ⟨a2, len2, cap2, rfl⟩ := okWide_slice Try.underlying103 (hval 2 103 v2 rfl rfl)
 have k2 := h2
 have lt2 : ∀ x ∈ p2, x.block < W.heap.size := by obtain ⟨m, hm⟩ := k2; exact DataW.trod_lt m _ _ _ hm
 obtain ⟨l2, rfl, hC2, hc2, hq2⟩ := open_sl (Opn.slice (e := 87) (d := kdAct) (Q := wfAct) Try.underlying103 (by kernel_rfl) (fun {H} => @opn_Act H)) h2
 obtain ⟨a3, len3, cap3, rfl⟩ := okWide_slice Try.underlying103 (hval 3 103 v3 rfl rfl)
 have k3 := h3
 have lt3 : ∀ x ∈ p3, x.block < W.heap.size := by obtain ⟨m, hm⟩ := k3; exact DataW.trod_lt m _ _ _ hm
 obtain ⟨l3, rfl, hC3, hc3, hq3⟩ := open_sl (Opn.slice (e := 87) (d := kdAct) (Q := wfAct) Try.underlying103 (by kernel_rfl) (fun {H} => @opn_Act H)) h3
 refine (walk_GridSame a0 a1 a2 cap2 l2 a3 cap3 l3 W w0 w1 hC2 hc2 hq2 hC3 hc3 hq3).mono fun e W' ⟨he, bel⟩ => ?_
 subst he
 exact ⟨_, rfl, _, _, _, [], _, [], hW', trodAll_mk1 (shut_bool Try.underlying4 _), (trodAll_cons_mk (shut_int Try.underlying3 w0) (trodAll_cons_mk (shut_int Try.underlying3 w1) (trodAll_cons_mk (Below.trod laidOut_GridSame (by kernel_rfl) (of_decide_eq_true (by kernel_rfl)) k2 bel lt2) (trodAll_cons_mk (Below.trod laidOut_GridSame (by kernel_rfl) (of_decide_eq_true (by kernel_rfl)) k3 bel lt3) trodAll_mk0)))), rfl, bel.frame _, fun h => by cases h⟩
/-- The row. -/
theorem GridSame_holds : Rows.GridSameSaid :=
 OpenClaim.holds_of_wide 11 Try.f11 rfl rfl rfl rfl rfl rfl rfl ⟨rfl, rfl, rfl, rfl, rfl⟩ rfl rfl rfl rfl rfl (by kernel_rfl) Try.func11 (by kernel_rfl)
  (of_decide_eq_true (by kernel_rfl)) (by unfold Func.isWrapper; first | (rw [if_pos (by decide +kernel)]; kernel_rfl) | (rw [if_neg (by decide +kernel)]; exact ⟨rfl, rfl⟩))
  (fun os started H enc _ => lifted_GridSame os started H enc)
#print axioms GridSame_holds
end Go.Proofs.Ytblcmcdifgclcaa.Grd
