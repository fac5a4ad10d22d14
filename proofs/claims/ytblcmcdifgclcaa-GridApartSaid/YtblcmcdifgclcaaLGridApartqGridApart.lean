/- GridApart: what its proof leads to. No condition. -/
import Derived.Test.YtblcmcdifgclcaaRows
import Derived.Test.YtblcmcdifgclcaaG34qGridApart
import Derived.ProofKit
import Derived.OpenShut
import Derived.Test.YtblcmcdifgclcaaG4qGridApart
namespace Go.Proofs.Ytblcmcdifgclcaa.Grd
open Go.ChangeShapes Go.WideShapes Go.ChangeAt Go.RowKit Go.Proofs.Ytblcmcdifgclcaa Go.Proofs.Ytblcmcdifgclcaa.PGridSame Go.Proofs.YtblcmcdifgclcaaW.PrintWords Go.Proofs.YtblcmcdifgclcaaW.PrintLast Go.Proofs.YtblcmcdifgclcaaW.PrintMore
set_option linter.unusedVariables false
set_option linter.unusedSimpArgs false
attribute [local go_sem] isSome_setCell max2_int min2_int max_two min_two
set_option maxRecDepth 100000 in
set_option maxHeartbeats 4000000 in
theorem walk_GridApart (r c : Int) (A : Option Addr) (c1 : Nat) (acts : List TAct) (v3 : Value) (x3 : TAct) (w : World) {base : Nat} (hr : (Lit.int .i64 r).wf = true) (hc : (Lit.int .i64 c).wf = true) (hC1 : Kd.C kdAct w A acts.length acts) (hc1 : acts.length ≤ c1) (hq1 : ∀ x ∈ acts, wfAct x) (hv3 : Value.okWide Try.prog w .any base 87 v3) (hK3 : kdAct.K w x3 v3.cells.toList) (hq3 : wfAct x3) :
 Calls Try.prog 12 #[.int .i64 r, .int .i64 c, .slice A acts.length c1, v3] w fun e w' => e = .returned (.bool true) ∧ Below w.heap.size w w' := by
 clear hr hc
 obtain ⟨Aa, ca, rfl, hca, hCa⟩ := act_arg hv3 hK3
 have haa := aw_of hq3
 clear hv3 hK3 hq3
 obtain ⟨a, hta⟩ : ∃ a, toA x3 = a := ⟨_, rfl⟩
 rw [hta] at hca hCa haa ⊢
 clear hta
 obtain ⟨n0, hn0⟩ : ∃ n, a.l.length = n := ⟨_, rfl⟩
 rw [hn0] at hca hCa ⊢
 have HA0 := aS (And.intro haa (And.intro hn0.symm (And.intro hca hCa)))
 clear haa hn0 hca hCa
 obtain ⟨sr, hsr⟩ : ∃ s, smallV r = s := ⟨_, rfl⟩
 obtain ⟨sc, hsc⟩ : ∃ s, smallV c = s := ⟨_, rfl⟩
 have HSR := aS (show prolepsislaw07_small.f r = some sr by rw [small_ok, hsr])
 have HSC := aS (show prolepsislaw07_small.f c = some sc by rw [small_ok, hsc])
 clear hsr hsc
 obtain ⟨N1, hN1⟩ : ∃ n, acts.length = n := ⟨_, rfl⟩
 rw [hN1] at hC1 hc1 ⊢
 have HN1 := aS hN1
 have HC1 := aS hC1
 have HQ1 := aS hq1
 clear hN1 hC1 hq1 hc1
 by_cases hz : gSize sr sc = true
 ·have HZ := aS hz
  clear hz
  obtain ⟨G0, hG0⟩ : ∃ G, gNew sr sc = G := ⟨_, rfl⟩
  have HG0 := aS hG0
  clear hG0
  go_enter Try.func12, Try.ntmps12
  go_wp2_with (first | (refine bx 7 #[.int .i64 a.k, .int .i64 a.r, .int .i64 a.c, .int .i64 a.t, .int .i32 a.x.f0, .int .i32 a.x.f1.f0, .int .i32 a.x.f1.f1, .int .u8 a.x.f2, .int .u8 a.x.f3.f0, .int .u8 a.x.f3.f1, .int .u8 a.x.f3.f2, .int .i32 a.m, .int .u8 a.p0, .int .u8 a.p1, .int .u8 a.p2, .slice Aa n0 ca] 87 ?_; intro b7 hg_ w1 hx_ hb_; have E1 := aS (And.intro (show w1.heap[b7]? = some (actB a Aa n0 ca) from hx_) (And.intro hg_ hb_)); clear hg_ hx_ hb_) | (go_at_call 75; (with_reducible refine (prolepsislaw07_small.calls r sr w1 HSR.out).mono ?_); rintro e w2 ⟨rfl, hd⟩; have H2 := aS (below_step E1.out.2.2 hd.below); have D2 := aS hd.below; clear hd) | (go_at_call 75; (with_reducible refine (prolepsislaw07_small.calls c sc w2 HSC.out).mono ?_); rintro e w3 ⟨rfl, hd⟩; have H3 := aS (below_step H2.out hd.below); have D3 := aS hd.below; clear hd) | (go_at_call 76; (with_reducible refine (New_any sr sc HZ.out w3).mono ?_); rintro e w4 ⟨ga, rfl, hF⟩; rw [HG0.out] at hF; have F4 := aS hF; clear hF) | (go_at_call 78; (with_reducible refine (rgNew_any sr sc HZ.out w4).mono ?_); rintro e w5 ⟨b5, cap5, M5, rfl, -, hG5, hb⟩; rw [HG0.out] at hG5 ⊢; have F5 := aS (And.intro hG5 hb); clear hG5 hb) | (refine bx 11 #[.slice none 0 0, .int .i64 0, .int .i64 0] 108 ?_; intro b11 hg_ w6 hx_ hb_; have E6 := aS (And.intro hg_ (And.intro hb_ hx_)); clear hg_ hx_ hb_) | ((with_reducible refine gate_store (t := 108) (p := 11) rfl ?_); go_must (refine step_whole (.tmp 11) (.tmp 44) rfl rfl rfl rfl rfl (E6.out.2.2) rfl (by kernel_rfl) (by simp [Value.oneCell']; done) ?_); intro w7 hx_ hg_; have E7 := aS (And.intro hg_ hx_); clear hx_ hg_))
  obtain ⟨O1, hO1⟩ : ∃ O : Nat → Prop, O = (fun k => w3.heap.size ≤ k ∧ k < w4.heap.size) := ⟨_, rfl⟩
  obtain ⟨d1, hd1⟩ : ∃ O : Nat → Prop, O = (fun k => w4.heap.size ≤ k ∧ k < w5.heap.size) := ⟨_, rfl⟩
  have HT0 := aS (show SW w w7 O1 d1 ga G0 (.slice (some ⟨b5, 0, none⟩) M5 cap5) b11 [(b7, actB a Aa n0 ca)] from by
   have s1 := E1.out.2.2.size
   have s2 := D2.out.size
   have s3 := D3.out.size
   have s4 := F4.out.2.size
   have s5 := F5.out.2.size
   have x1 := blk_lt E1.out.1
   have g1 := E1.out.2.1
   have g6 := E6.out.1
   have x6 := blk_lt E6.out.2.2
   have B6 : Below w5.heap.size w5 w6 := E6.out.2.1
   have C4 := below_step H3.out F4.out.2
   have C5 := below_step C4 F5.out.2
   have C6 := below_step C5 B6
   have C7 := C6.grown E7.out.1 C6.size (fun k hk => by injection hk with hk; omega)
   subst hO1 hd1
   have p7 := ((((PL.new F4.out F5.out.1 (Below.refl _ _) F5.out.2).below B6).grown E7.out.1 (fun h => by have := h.2; omega) (fun h => by have := h.2; omega)).more (by omega : w.heap.size ≤ w3.heap.size))
   refine ⟨C7, p7, E7.out.2, ⟨by omega, fun h => by have := h.2; omega, fun h => by have := h.2; omega⟩, fun q hq => ?_⟩
   rw [List.mem_singleton] at hq
   subst hq
   exact ⟨blk_grown (blk_below (blk_below (blk_below (blk_below (blk_below E1.out.1 D2.out) D3.out) F4.out.2) F5.out.2) B6) E7.out.1 (fun e => by injection e with e; omega), by show w.heap.size ≤ b7; omega, fun h => by have : w3.heap.size ≤ b7 := h.1; omega, fun h => by have : w4.heap.size ≤ b7 := h.1; omega, by show b7 ≠ b11; omega⟩)
  clear E1 H2 H3 D2 D3 F4 F5 E6 E7 hO1 hd1
  go_loopg [9, 12] 41 (fun kq v9 v12 w' => ∃ (i g : Nat) (G : GV) (v : Value) (O d : Nat → Prop), v9 = .pointer (some ⟨g, 0, none⟩) ∧ v12 = .int .i64 i ∧ Aside0 (kq = 41 - i ∧ i ≤ 40) ∧ Aside0 (SW w w' O d g G v b11 [(b7, actB a Aa n0 ca)]))
  case atStart => exact ⟨0, ga, G0, _, O1, d1, rfl, by go_num, ⟨by omega, by omega⟩, HT0⟩
  case round =>
   clear HT0
   obtain ⟨i, g, G, v, O, d, rfl, rfl, HK, HT⟩ := hrel
   by_cases hh : i < N1 ∧ i < 40
   ·obtain ⟨hi, h4⟩ := hh
    have hT1 : decide (i < N1) = true := decide_eq_true hi
    have hT1' : decide ((i : Int) < (N1 : Int)) = true := decide_eq_true (by omega)
    have hT2 : decide (i < 40) = true := decide_eq_true h4
    have hT2' : decide ((i : Int) < 40) = true := decide_eq_true (by omega)
    have hw1 : wrap64 ((i : Int) + 1) = ((i + 1 : Nat) : Int) := by rw [w64 (by omega) (by omega)]; omega
    obtain ⟨Av, Nv, cv, rfl⟩ := RD.slice HT.out.p.rd
    obtain ⟨x, hx⟩ : ∃ x, acts[i]? = some x := ⟨_, List.getElem?_eq_getElem (by rw [HN1.out]; exact hi)⟩
    have ha := aw_of (HQ1.out x (List.mem_of_getElem? hx))
    obtain ⟨ad, Al, cl, rfl, ⟨hcl, hCl⟩, x0, x1, x2, x3, x4, x5, x6, x7, x8, x9, x10, x11, x12, x13, x14, x15⟩ := at_Act HC1.out i x hx
    clear hx
    obtain ⟨ac, hta⟩ : ∃ ac, toA x = ac := ⟨_, rfl⟩
    rw [hta] at ha hcl hCl x0 x1 x2 x3 x4 x5 x6 x7 x8 x9 x10 x11 x12 x13 x14 x15
    clear hta
    obtain ⟨n, hn⟩ : ∃ n, ac.l.length = n := ⟨_, rfl⟩
    rw [hn] at hcl hCl x15
    have HA := aS (And.intro ha (And.intro hn.symm (And.intro hcl hCl)))
    clear ha hn hcl hCl
    replace x0 := (HT.out.bel.cell (World.block_lt_of_cell? w _ x0)).trans x0
    replace x1 := (HT.out.bel.cell (World.block_lt_of_cell? w _ x1)).trans x1
    replace x2 := (HT.out.bel.cell (World.block_lt_of_cell? w _ x2)).trans x2
    replace x3 := (HT.out.bel.cell (World.block_lt_of_cell? w _ x3)).trans x3
    replace x4 := (HT.out.bel.cell (World.block_lt_of_cell? w _ x4)).trans x4
    replace x5 := (HT.out.bel.cell (World.block_lt_of_cell? w _ x5)).trans x5
    replace x6 := (HT.out.bel.cell (World.block_lt_of_cell? w _ x6)).trans x6
    replace x7 := (HT.out.bel.cell (World.block_lt_of_cell? w _ x7)).trans x7
    replace x8 := (HT.out.bel.cell (World.block_lt_of_cell? w _ x8)).trans x8
    replace x9 := (HT.out.bel.cell (World.block_lt_of_cell? w _ x9)).trans x9
    replace x10 := (HT.out.bel.cell (World.block_lt_of_cell? w _ x10)).trans x10
    replace x11 := (HT.out.bel.cell (World.block_lt_of_cell? w _ x11)).trans x11
    replace x12 := (HT.out.bel.cell (World.block_lt_of_cell? w _ x12)).trans x12
    replace x13 := (HT.out.bel.cell (World.block_lt_of_cell? w _ x13)).trans x13
    replace x14 := (HT.out.bel.cell (World.block_lt_of_cell? w _ x14)).trans x14
    replace x15 := (HT.out.bel.cell (World.block_lt_of_cell? w _ x15)).trans x15
    obtain ⟨y0, y1, y2⟩ := gcells HT.out.bx
    go_wp2
    refine start_ (n := 13) (S := fun w' => w'.cell? ⟨b11, 0, none⟩ = some (.slice Av Nv cv) ∧ w'.cell? ⟨b11, 1, none⟩ = some (.int .i64 G.row) ∧ w'.cell? ⟨b11, 2, none⟩ = some (.int .i64 G.col) ∧ w'.cell? (ad.add (i * 16)) = some (.int .i64 ac.k) ∧ w'.cell? ⟨(ad.add (i * 16)).block, (ad.add (i * 16)).off + 1, none⟩ = some (.int .i64 ac.r) ∧ w'.cell? ⟨(ad.add (i * 16)).block, (ad.add (i * 16)).off + 2, none⟩ = some (.int .i64 ac.c) ∧ w'.cell? ⟨(ad.add (i * 16)).block, (ad.add (i * 16)).off + 3, none⟩ = some (.int .i64 ac.t) ∧ w'.cell? ⟨(ad.add (i * 16)).block, (ad.add (i * 16)).off + 4, none⟩ = some (.int .i32 ac.x.f0) ∧ w'.cell? ⟨(ad.add (i * 16)).block, (ad.add (i * 16)).off + 5, none⟩ = some (.int .i32 ac.x.f1.f0) ∧ w'.cell? ⟨(ad.add (i * 16)).block, (ad.add (i * 16)).off + 6, none⟩ = some (.int .i32 ac.x.f1.f1) ∧ w'.cell? ⟨(ad.add (i * 16)).block, (ad.add (i * 16)).off + 7, none⟩ = some (.int .u8 ac.x.f2) ∧ w'.cell? ⟨(ad.add (i * 16)).block, (ad.add (i * 16)).off + 8, none⟩ = some (.int .u8 ac.x.f3.f0) ∧ w'.cell? ⟨(ad.add (i * 16)).block, (ad.add (i * 16)).off + 9, none⟩ = some (.int .u8 ac.x.f3.f1) ∧ w'.cell? ⟨(ad.add (i * 16)).block, (ad.add (i * 16)).off + 10, none⟩ = some (.int .u8 ac.x.f3.f2) ∧ w'.cell? ⟨(ad.add (i * 16)).block, (ad.add (i * 16)).off + 11, none⟩ = some (.int .i32 ac.m) ∧ w'.cell? ⟨(ad.add (i * 16)).block, (ad.add (i * 16)).off + 12, none⟩ = some (.int .u8 ac.p0) ∧ w'.cell? ⟨(ad.add (i * 16)).block, (ad.add (i * 16)).off + 13, none⟩ = some (.int .u8 ac.p1) ∧ w'.cell? ⟨(ad.add (i * 16)).block, (ad.add (i * 16)).off + 14, none⟩ = some (.int .u8 ac.p2) ∧ w'.cell? ⟨(ad.add (i * 16)).block, (ad.add (i * 16)).off + 15, none⟩ = some (.slice Al n cl)) (ds := [6, 12]) (tb 13 0) (by kernel_rfl) rfl rfl ⟨y0, y1, y2, x0, x1, x2, x3, x4, x5, x6, x7, x8, x9, x10, x11, x12, x13, x14, x15⟩ (fun hHeld => ?_)
    refine tP 0 (some 56) (tb 13 1) ?_
    refine tP 2 (some 58) (tb 13 5) ?_
    refine tP 3 (some 59) (tb 13 13) ?_
    refine tP 4 (some 60) (tb 13 29) ?_
    refine tK 1 (some 57) (tb 13 31) ?_
    refine tK 5 (some 61) (tb 13 63) ?_
    refine last_ (i := 6) (N := some 62) (tb 13 127) rfl rfl (by kernel_rfl) (by decide) (fun K hK => ?_)
    refine gO Try.func79 #[.pointer (some ⟨g, 0, none⟩), gV (.slice Av Nv cv) G, actV ac Al n cl] ?_
    with_reducible refine (HT.out.do_ bE ac HA.out.1 HA.out.2.1 HA.out.2.2.1 HA.out.2.2.2).mono ?_
    rintro e wc ⟨g1, A1', N1', c1', O1', d1', rfl, b1, hk⟩
    refine ⟨_, rfl, ?_⟩
    have H6 := aS (And.intro b1 hk)
    clear b1 hk
    refine hK.out _ _ ?_
    clear hK K
    refine nm ?_
    refine tP 7 (some 55) (tb 13 255) ?_
    refine tP 8 (some 63) (tb 13 511) ?_
    refine tP 9 (some 64) (tb 13 1023) ?_
    refine tP 10 (some 65) (tb 13 2047) ?_
    refine tP 11 (some 9) (tb 13 4095) ?_
    refine last_ (i := 12) (N := none) (tb 13 8191) rfl rfl (by kernel_rfl) (by decide) (fun K hK => ?_)
    refine whole_step (cs' := #[.slice A1' N1' c1', .int .i64 (doV G ac).row, .int .i64 (doV G ac).col]) (by rfl) (.tmp 11) (.tmp 64) rfl rfl (by rfl) (by rfl) H6.out.1 rfl (by kernel_rfl) (by simp [Value.oneCell']; done) ?_
    intro w12 hx_ hg_
    have H12 := aS (H6.out.2 _ hg_ hx_)
    clear hx_ hg_
    refine hK.out _ _ ?_
    clear hK K
    refine done_ (by kernel_rfl) ?_
    all_goals go_wp2
    all_goals go_roundg (41 - (i + 1))
    all_goals first | (case measure => have := HK.out; omega) | (case rel => exact ⟨i + 1, g1, doV G ac, _, O1', d1', rfl, by go_num, ⟨rfl, by omega⟩, H12⟩)
   ·have hor : (decide (i < N1) = false ∧ decide ((i : Int) < (N1 : Int)) = false) ∨ ((decide (i < N1) = true ∧ decide ((i : Int) < (N1 : Int)) = true) ∧ decide (i < 40) = false ∧ decide ((i : Int) < 40) = false) := by
     by_cases hi : i < N1
     ·right
      have h4 : ¬ i < 40 := fun h => hh ⟨hi, h⟩
      exact ⟨⟨decide_eq_true hi, decide_eq_true (by omega)⟩, decide_eq_false h4, decide_eq_false (by omega)⟩
     ·left
      exact ⟨decide_eq_false hi, decide_eq_false (by omega)⟩
    have HBX := aS ((HT.out.gs _ List.mem_cons_self).1)
    have HGR := aS HT.out.p.gr
    have HBL := aS HT.out.bel
    have hok := HT.out.p.gr.ok
    obtain ⟨l, hl⟩ : ∃ l, G.L[0]? = some l := ⟨_, List.getElem?_eq_getElem hok.r1⟩
    obtain ⟨m, hm⟩ : ∃ m, l.length = m := ⟨_, rfl⟩
    have hm2 : m = G.cols := by rw [← hm]; exact hok.len l (List.mem_of_getElem? hl)
    have HLL := aS (show (if gHas G 0 = true then gLn G 0 else []) = l ∧ l.length = m ∧ 1 ≤ m ∧ m ≤ 512 from ⟨gLn_get (i := 0) hl, hm, by have := hok.c1; omega, by have := hok.c2; omega⟩)
    have HOK := aS hok
    clear hh HK hok hl hm hm2
    rcases hor with ⟨hT1, hT1'⟩ | ⟨⟨hT1, hT1'⟩, hT2, hT2'⟩
    all_goals
     go_wp2_with (first | (go_at_call 73; go_must ((with_reducible refine (Copy_any HGR.out).mono ?_); rintro e w1 ⟨gc, rfl, hF⟩; have F1 := aS hF; have GC := aS (And.left hF); have BC := aS (And.right hF); clear hF)) | (go_at_call 82; go_must ((with_reducible refine (Of_any (HGR.out.below BC.out)).mono ?_); rintro e w2 ⟨bq, capq, Mq, rfl, -, hGq, hb⟩; have Fq := aS (hGq.rd (by rw [toL_len]; exact HOK.out.r2)); have B2 := aS hb; clear hGq hb)) | (refine bx 14 #[.slice none 0 0, .int .i64 0, .int .i64 0] 108 ?_; intro b14 hg_ w3 hx_ hb_; have E3 := aS (And.intro hg_ (And.intro hb_ hx_)); clear hg_ hx_ hb_) | ((with_reducible refine gate_store (t := 108) (p := 14) rfl ?_); go_must (refine step_whole (.tmp 14) (.tmp 71) rfl rfl rfl rfl rfl (E3.out.2.2) rfl (by kernel_rfl) (by simp [Value.oneCell']; done) ?_); intro w4 hx_ hg_; have E4 := aS (And.intro hg_ hx_); clear hx_ hg_; go_must (have B34 := aS (show w2.heap.size ≤ w3.heap.size ∧ w3.heap.size ≤ w4.heap.size ∧ w1.heap.size ≤ w2.heap.size ∧ wr.heap.size ≤ w1.heap.size ∧ b14 = w2.heap.size from ⟨E3.out.2.1.size, E4.out.1.size, B2.out.size, BC.out.size, E3.out.1⟩)); go_must (have X4 := aS (show w4.heap[b7]? = some (actB a Aa n0 ca) from blk_grown (blk_below (blk_below (blk_below HBX.out BC.out) B2.out) E3.out.2.1) E4.out.1 (fun e => by injection e with e; have := blk_lt HBX.out; have := B34.out; omega))); go_must (have W4 := aS (show Wr (fun k => k = b14) wr w4 from ((((Wr.of_below BC.out _).then_ B2.out).then_ E3.out.2.1).grown E4.out.1 (fun k hk => by injection hk with hk; exact .inl hk.symm)))); obtain ⟨y0, y1, y2⟩ := gcells E4.out.2; obtain ⟨x0, x1, x2, x3, x4, x5, x6, x7, x8, x9, x10, x11, x12, x13, x14, x15⟩ := acells X4.out; go_must (have GC4 := aS (show GS (fun k => wr.heap.size ≤ k ∧ k < w1.heap.size) w4 gc G from (((GC.out.below B2.out).below E3.out.2.1).wr (Wr.grown (Wr.refl (fun k => k = b14) w3) E4.out.1 (fun k hk => by injection hk with hk; exact .inl hk.symm)) (fun k hk e => by have := B34.out; have := hk.2; omega)))); go_must (have RQ4 := aS (show RD kRL w4 (fun k => w1.heap.size ≤ k ∧ k < w2.heap.size) (.slice (some ⟨bq, 0, none⟩) Mq capq) (toL G.L) from ((Fq.out.below E3.out.2.1).wr (Wr.grown (Wr.refl (fun k => k = b14) w3) E4.out.1 (fun k hk => by injection hk with hk; exact .inl hk.symm)) (fun k hk e => by have := B34.out; have := hk.2; omega)))); go_must (have BW4 := aS (show Below w.heap.size w w4 from by have b3 := below_step (below_step (below_step HBL.out BC.out) B2.out) E3.out.2.1; exact b3.grown E4.out.1 b3.size (fun k hk => by injection hk with hk; have := HBL.out.size; have := B34.out; omega)))) | (go_at_call 79; go_must (refine (Do_any (B := w.heap.size) (w := w4) GC4.out RQ4.out (fun k hk hk2 => by have := hk.1; have := hk2.2; omega) a HA0.out.1 BW4.out.size (fun k hk => Nat.le_trans HBL.out.size hk.1) ⟨HA0.out.2.1, HA0.out.2.2.1⟩ (fun W' hb' => Kd.C_below HA0.out.2.2.2 (BW4.out.trans hb'))).mono ?_); go_must (rintro e w5 ⟨g5, v5, O5, rfl, -, -, hWr, -⟩; have W5 := aS hWr; clear hWr y0 y1 y2 x0 x1 x2 x3 x4 x5 x6 x7 x8 x9 x10 x11 x12 x13 x14 x15); go_must (have HG5 := aS (show GS O w5 g G from (HGR.out.wr W4.out (fun k hk e => by have := HGR.out.ob k hk; have := B34.out; omega)).wr W5.out (fun k hk hk2 => by have := HGR.out.ob k hk; have := hk2.1; omega))); go_must (have HR5 := aS (RQ4.out.wr W5.out (fun k hk hk2 => by have := hk.1; have := hk2.2; omega))); go_must (have HB5 := aS (show w5.heap[b14]? = some (gB (.slice (some ⟨bq, 0, none⟩) Mq capq) G) from W5.out.blk E4.out.2 (fun hk => by have := hk.2; have := B34.out; omega))); go_must (have BL5 := aS (show Below w.heap.size w w5 from BW4.out.trans (W5.out.toBelow BW4.out.size (fun k hk => Nat.le_trans HBL.out.size hk.1))))) | (go_at_call 69; go_must ((with_reducible refine (Line_any HG5.out 0).mono ?_); rintro e w6 ⟨v6, rfl, hR, hb⟩; rw [HLL.out.1] at hR; obtain ⟨go, co, cs, rfl, hgo, hx, hsz⟩ := row_size hR (by have := HLL.out; omega); rw [HLL.out.2.1] at hsz ⊢; have H6 := aS (And.intro hx (And.intro hsz (And.intro hgo hb))); clear hR hb hgo hx hsz)))
     clear F1 GC BC Fq B2 E3 E4 B34 X4 W4 GC4 RQ4 BW4 W5 HBX HGR HT
     go_loopg [16] (m + 1) (fun kq v16 w' => ∃ (j : Nat) (cs : Array Value), v16 = .int .i64 j ∧ Aside0 (kq = m - j + 1 ∧ j ≤ m) ∧ Aside0 (w'.heap[go]? = some (.cells cs tCl (0, 0)) ∧ m * 7 ≤ cs.size ∧ w5.heap.size ≤ go ∧ Below w5.heap.size w5 w'))
     case atStart => exact ⟨0, cs, by go_num, ⟨by omega, by omega⟩, H6⟩
     case round =>
      clear H6 cs
      obtain ⟨j, cs, rfl, HK, H6⟩ := hrel
      by_cases hj : j < m
      ·have hT3 : decide (j < m) = true := decide_eq_true hj
       have hT3' : decide ((j : Int) < (m : Int)) = true := decide_eq_true (by omega)
       have hw1 : wrap64 ((j : Int) + 1) = ((j + 1 : Nat) : Int) := by rw [w64 (by omega) (by have := HLL.out; omega)]; omega
       have HJ := aS hj
       have hj' : (j < m) = True := eq_true hj
       clear hj
       go_wp2_with (first | ((with_reducible refine gate_store (t := 26) (p := 89) rfl ?_); go_must (refine step_elem (off := j * 7) (cs' := #[.int .i32 122, .int .i32 0, .int .i32 0, .int .u8 1, .int .u8 0, .int .u8 0, .int .u8 0]) (.tmp 89) (.tmp 88) rfl rfl rfl rfl rfl H6.out.1 (by have := HJ.out; have := H6.out.2.1; simp; omega) (by kernel_rfl) (by simp [Value.oneCell']; done) ?_); intro w7 cs2 hx_ hz_ hg_; have H7 := aS (show w7.heap[go]? = some (.cells cs2 tCl (0, 0)) ∧ m * 7 ≤ cs2.size ∧ w5.heap.size ≤ go ∧ Below w5.heap.size w5 w7 from ⟨hx_, by rw [hz_]; exact H6.out.2.1, H6.out.2.2.1, H6.out.2.2.2.grown hg_ H6.out.2.2.2.size (fun k hk => by injection hk with hk; have := H6.out.2.2.1; omega)⟩); clear hx_ hz_ hg_))
       go_roundg (m - (j + 1) + 1)
       case measure => have := HK.out; have := HJ.out; omega
       case rel => exact ⟨j + 1, cs2, by go_num, ⟨rfl, by have := HJ.out; omega⟩, H7⟩
      ·have hT3 : decide (j < m) = false := decide_eq_false hj
       have hT3' : decide ((j : Int) < (m : Int)) = false := decide_eq_false (by omega)
       clear hj HK
       have HB6 := aS H6.out.2.2.2
       have YB := aS (blk_below HB5.out HB6.out)
       obtain ⟨y0, y1, y2⟩ := gcells YB.out
       clear H6 YB
       go_wp2_with (first | (go_at_call 65; go_must ((with_reducible refine (Rows_any (HG5.out.below HB6.out)).mono ?_); rintro e w6' ⟨rfl, hw⟩; subst hw)) | (go_at_call 66; (with_reducible refine (Cols_any (HG5.out.below HB6.out)).mono ?_); rintro e w6' ⟨rfl, hw⟩; subst hw) | (go_at_call 63; go_must ((with_reducible refine (Fit_any (HG5.out.below HB6.out) (G.L.length : Int) (G.cols : Int) (size_self HOK.out)).mono ?_); rintro e w8 ⟨gf, rfl, hF⟩; rw [fit_self HOK.out] at hF; have GF8 := aS (And.left hF); have B68 := aS (And.right hF); have HB8 := aS (below_step HB6.out (And.right hF)); clear hF; clear y0 y1 y2; obtain ⟨y0, y1, y2⟩ := gcells (blk_below HB5.out HB8.out))) | (go_at_call 83; (with_reducible refine (Same7_any (HG5.out.below HB8.out) (HR5.out.below HB8.out)).mono ?_); rintro e w9 ⟨rfl, hb⟩; have B89 := aS hb; have HB9 := aS (below_step HB8.out hb); clear hb) | (go_at_call 80; go_must ((with_reducible refine (Same_any (GF8.out.below B89.out) (HG5.out.below HB9.out)).mono ?_); rintro e w10 ⟨rfl, hb⟩; rw [gSame_self]; have GF10 := aS ((GF8.out.below B89.out).below hb); have HB10 := aS (below_step HB9.out hb); clear hb)) | (go_at_call 66; (with_reducible refine (Cols_any GF10.out).mono ?_); rintro e w10' ⟨rfl, hw⟩; subst hw) | (go_at_call 59; go_must ((refine (Erase_any GF10.out 0 0 (G.cols : Int) 1 0 0).mono ?_); rintro e w11 ⟨rfl, hd⟩; obtain ⟨O11, -, -, hWr⟩ := hd; have HB11 := aS (show Below w5.heap.size w5 w11 from HB10.out.trans (hWr.toBelow HB10.out.size (fun k hk => Nat.le_trans HB6.out.size hk.1))); clear hWr)) | (go_at_call 64; go_must ((with_reducible refine (known_any _).mono ?_); rintro e w12 ⟨rfl, hb⟩; have HB12 := aS (below_step HB11.out hb); clear hb; clear y0 y1 y2; obtain ⟨y0, y1, y2⟩ := gcells (blk_below HB5.out HB12.out))) | (go_at_call 83; (with_reducible refine (Same7_any (HG5.out.below HB12.out) (HR5.out.below HB12.out)).mono ?_); rintro e w13 ⟨rfl, hb⟩; have HB13 := aS (below_step HB12.out hb); clear hb))
       all_goals go_ret
       all_goals exact ⟨by simp, below_step BL5.out HB13.out⟩
 ·have HZ := aS (Bool.eq_false_iff.2 hz)
  clear hz
  go_enter Try.func12, Try.ntmps12
  go_wp2_with (first | (refine bx 7 #[.int .i64 a.k, .int .i64 a.r, .int .i64 a.c, .int .i64 a.t, .int .i32 a.x.f0, .int .i32 a.x.f1.f0, .int .i32 a.x.f1.f1, .int .u8 a.x.f2, .int .u8 a.x.f3.f0, .int .u8 a.x.f3.f1, .int .u8 a.x.f3.f2, .int .i32 a.m, .int .u8 a.p0, .int .u8 a.p1, .int .u8 a.p2, .slice Aa n0 ca] 87 ?_; intro b7 hg_ w1 hx_ hb_; have E1 := aS (And.intro (show w1.heap[b7]? = some (actB a Aa n0 ca) from hx_) (And.intro hg_ hb_)); clear hg_ hx_ hb_) | (go_at_call 75; (with_reducible refine (prolepsislaw07_small.calls r sr w1 HSR.out).mono ?_); rintro e w2 ⟨rfl, hd⟩; have H2 := aS (below_step E1.out.2.2 hd.below); clear hd) | (go_at_call 75; (with_reducible refine (prolepsislaw07_small.calls c sc w2 HSC.out).mono ?_); rintro e w3 ⟨rfl, hd⟩; have H3 := aS (below_step H2.out hd.below); clear hd) | (go_at_call 76; (with_reducible refine (New_no sr sc HZ.out w3).mono ?_); rintro e w4 ⟨rfl, hb⟩; have H4 := aS (below_step H3.out hb); clear hb) | (go_at_call 64; refine (known_any w4).mono ?_; rintro e w5 ⟨rfl, hb⟩; have H5 := aS (below_step H4.out hb); clear hb) | (go_at_call 77; refine (prolepsisref07_Size.calls sr sc _ w5 (rsize_ok sr sc)).mono ?_; rintro e w6 ⟨rfl, hd⟩; rw [HZ.out]; have H6 := aS (below_step H5.out hd.below); clear hd))
  all_goals go_ret
  all_goals exact ⟨rfl, H6.out⟩
theorem own_GridApart : ownKnob Try.prog.godebug = none := by kernel_rfl
theorem laidOut_GridApart : laidOutB Try.prog = true := by kernel_rfl
set_option maxRecDepth 100000 in
theorem lifted_GridApart (os : Os) (started : os.Started) (H : Type) (enc : TypeId × Value → H) :
 ReturnsInHanded {} Try.checked os 12 .any (Rows.gridApartSpec.pre6 enc Try.prog Try.f12 Rows.gridApartRow.domain false) (Rows.gridApartSpec.post enc Try.prog Try.f12 false true false false) := by
 refine returnsInHanded_of_change (C := Try.checked) own_GridApart started (by kernel_rfl) Try.func12
  (ChangeSpec.witness6 (enc := enc) (C := Try.checked) false ⟨#[], #[.int .i64 0, .int .i64 0, .slice none 0 0, .agg #[.int .i64 0, .int .i64 0, .int .i64 0, .int .i64 0, .int .i32 0, .int .i32 0, .int .i32 0, .int .u8 0, .int .u8 0, .int .u8 0, .int .u8 0, .int .i32 0, .int .u8 0, .int .u8 0, .int .u8 0, .slice none 0 0]], []⟩ 8 (by kernel_rfl) (by kernel_rfl) (by kernel_rfl) (by kernel_rfl)) ?_
 intro W base args ds gs before hval0 hW hcnd _
 have hval : ∀ (j : Nat) t v, Try.f12.params[j]? = some t → args[j]? = some v → Value.okWide Try.prog W .any base t v := hval0
 have hW' := hW
 obtain ⟨p, q, hA0, hV, rfl, hfz, hnd⟩ := hW
 have hA : DataW.TrodAll enc Try.prog W 0 (fun _ => true) true Try.f12.params.toList args.toList ds p := hA0
 rw [Try.params12] at hA hval
 obtain ⟨v0, vs0, d0, ds0, p0, q0, hargs, rfl, rfl, h0, r0⟩ := trodAll_cons hA
 obtain ⟨v1, vs1, d1, ds1, p1, q1, rfl, rfl, rfl, h1, r1⟩ := trodAll_cons r0
 obtain ⟨v2, vs2, d2, ds2, p2, q2, rfl, rfl, rfl, h2, r2⟩ := trodAll_cons r1
 obtain ⟨v3, vs3, d3, ds3, p3, q3, rfl, rfl, rfl, h3, r3⟩ := trodAll_cons r2
 obtain ⟨rfl, rfl, rfl⟩ := trodAll_nil r3
 obtain rfl : args = #[v0, v1, v2, v3] := by cases args; simp_all
 obtain ⟨rfl, rfl⟩ := trodVars_none hV
 obtain ⟨a0, rfl, rfl, rfl, w0⟩ := open_int Try.underlying3 (hval 0 3 v0 rfl rfl) h0
 obtain ⟨a1, rfl, rfl, rfl, w1⟩ := open_int Try.underlying3 (hval 1 3 v1 rfl rfl) h1
 obtain ⟨a2, len2, cap2, rfl⟩ := okWide_slice Try.underlying103 (hval 2 103 v2 rfl rfl)
 have k2 := h2
 have lt2 : ∀ x ∈ p2, x.block < W.heap.size := by obtain ⟨m, hm⟩ := k2; exact DataW.trod_lt m _ _ _ hm
 obtain ⟨l2, rfl, hC2, hc2, hq2⟩ := open_sl (Opn.slice (e := 87) (d := kdAct) (Q := wfAct) Try.underlying103 (by kernel_rfl) (fun {H} => @opn_Act H)) h2
 have k3 := h3
 have lt3 : ∀ x ∈ p3, x.block < W.heap.size := by obtain ⟨m, hm⟩ := k3; exact DataW.trod_lt m _ _ _ hm
 obtain ⟨x3, hK3, hq3⟩ := open_any (fun {H} => @opn_Act H) h3
 refine (walk_GridApart a0 a1 a2 cap2 l2 v3 x3 W w0 w1 hC2 hc2 hq2 (hval 3 87 v3 rfl rfl) hK3 hq3).mono fun e W' ⟨he, bel⟩ => ?_
 subst he
 exact ⟨_, rfl, _, _, _, [], _, [], hW', trodAll_mk1 (shut_bool Try.underlying4 _), (trodAll_cons_mk (shut_int Try.underlying3 w0) (trodAll_cons_mk (shut_int Try.underlying3 w1) (trodAll_cons_mk (Below.trod laidOut_GridApart (by kernel_rfl) (of_decide_eq_true (by kernel_rfl)) k2 bel lt2) (trodAll_cons_mk (Below.trod laidOut_GridApart (by kernel_rfl) (of_decide_eq_true (by kernel_rfl)) k3 bel lt3) trodAll_mk0)))), rfl, bel.frame _, fun h => by cases h⟩
theorem GridApart_holds : Rows.GridApartSaid :=
 OpenClaim.holds_of_wide 12 Try.f12 rfl rfl rfl rfl rfl rfl rfl ⟨rfl, rfl, rfl, rfl, rfl⟩ rfl rfl rfl rfl rfl (by kernel_rfl) Try.func12 (by kernel_rfl)
  (of_decide_eq_true (by kernel_rfl)) (by unfold Func.isWrapper; first | (rw [if_pos (by decide +kernel)]; kernel_rfl) | (rw [if_neg (by decide +kernel)]; exact ⟨rfl, rfl⟩))
  (fun os started H enc _ => lifted_GridApart os started H enc)
#print axioms GridApart_holds
end Go.Proofs.Ytblcmcdifgclcaa.Grd
