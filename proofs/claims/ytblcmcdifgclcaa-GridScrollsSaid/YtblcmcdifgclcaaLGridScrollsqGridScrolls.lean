/- GridScrolls: what its proof leads to. No condition. -/
import Derived.Test.YtblcmcdifgclcaaRows
import Derived.Test.YtblcmcdifgclcaaG34qGridScrolls
import Derived.ProofKit
import Derived.OpenShut
import Derived.Test.YtblcmcdifgclcaaG4qGridScrolls
namespace Go.Proofs.Ytblcmcdifgclcaa.Grd
open Go.ChangeShapes Go.WideShapes Go.ChangeAt Go.RowKit Go.Proofs.Ytblcmcdifgclcaa Go.Proofs.Ytblcmcdifgclcaa.PGridSame Go.Proofs.YtblcmcdifgclcaaW.PrintWords Go.Proofs.YtblcmcdifgclcaaW.PrintLast Go.Proofs.YtblcmcdifgclcaaW.PrintMore
set_option linter.unusedVariables false
set_option linter.unusedSimpArgs false
attribute [local go_sem] isSome_setCell max2_int min2_int max_two min_two
theorem pnc {W : World} {g : Nat} {p0 p1 p2 : Int} (h : W.heap[g]? = some (.cells #[.int .u8 p0, .int .u8 p1, .int .u8 p2] 24 (0, 0))) : W.cell? ⟨g, 0, none⟩ = some (.int .u8 p0) ∧ W.cell? ⟨g, 1, none⟩ = some (.int .u8 p1) ∧ W.cell? ⟨g, 2, none⟩ = some (.int .u8 p2) := ⟨(blk_cell h 0).trans rfl, (blk_cell h 1).trans rfl, (blk_cell h 2).trans rfl⟩
abbrev penO (p0 p1 p2 : Int) : Obj := .cells #[.int .u8 p0, .int .u8 p1, .int .u8 p2] 24 (0, 0)
set_option maxRecDepth 100000 in
set_option maxHeartbeats 4000000 in
theorem walk_GridScrolls (r c : Int) (A : Option Addr) (c1 : Nat) (acts : List TAct) (a0 b0 : Int) (v5 : Value) (x5 : Int × Int × Int) (w : World) {base : Nat} (hr : (Lit.int .i64 r).wf = true) (hc : (Lit.int .i64 c).wf = true) (hC1 : Kd.C kdAct w A acts.length acts) (hc1 : acts.length ≤ c1) (hq1 : ∀ x ∈ acts, wfAct x) (ha0 : (Lit.int .i64 a0).wf = true) (hb0 : (Lit.int .i64 b0).wf = true) (hv5 : Value.okWide Try.prog w .any base 24 v5) (hK5 : kdPen.K w x5 v5.cells.toList) (hq5 : wfPen x5) :
 Calls Try.prog 13 #[.int .i64 r, .int .i64 c, .slice A acts.length c1, .int .i64 a0, .int .i64 b0, v5] w fun e w' => e = .returned (.bool true) ∧ Below w.heap.size w w' := by
 clear hr hc ha0 hb0
 obtain rfl := pen_arg hv5 hK5
 obtain ⟨p0, p1, p2⟩ := x5
 dsimp only
 clear hv5 hK5 hq5
 obtain ⟨n1, e1, e1'⟩ : ∃ n : Nat, wrap64 ((IntKind.u64.wrap r).tmod 12) = (n : Int) ∧ n < 12 := by
  have h0 : 0 ≤ IntKind.u64.wrap r := by rw [IntKind.wrap_u64]; omega
  have h1 := Int.tmod_lt_of_pos (IntKind.u64.wrap r) (show (0 : Int) < 12 by omega)
  have h2 := Int.tmod_nonneg 12 h0
  refine ⟨((IntKind.u64.wrap r).tmod 12).toNat, ?_, by omega⟩
  rw [w64 (by omega) (by omega)]; omega
 obtain ⟨n2, e2, e2'⟩ : ∃ n : Nat, wrap64 ((IntKind.u64.wrap c).tmod 12) = (n : Int) ∧ n < 12 := by
  have h0 : 0 ≤ IntKind.u64.wrap c := by rw [IntKind.wrap_u64]; omega
  have h1 := Int.tmod_lt_of_pos (IntKind.u64.wrap c) (show (0 : Int) < 12 by omega)
  have h2 := Int.tmod_nonneg 12 h0
  refine ⟨((IntKind.u64.wrap c).tmod 12).toNat, ?_, by omega⟩
  rw [w64 (by omega) (by omega)]; omega
 obtain ⟨a, e3, e3'⟩ : ∃ n : Nat, wrap64 ((IntKind.u64.wrap a0).tmod 7) = (n : Int) ∧ n < 7 := by
  have h0 : 0 ≤ IntKind.u64.wrap a0 := by rw [IntKind.wrap_u64]; omega
  have h1 := Int.tmod_lt_of_pos (IntKind.u64.wrap a0) (show (0 : Int) < 7 by omega)
  have h2 := Int.tmod_nonneg 7 h0
  refine ⟨((IntKind.u64.wrap a0).tmod 7).toNat, ?_, by omega⟩
  rw [w64 (by omega) (by omega)]; omega
 obtain ⟨b, e4, e4'⟩ : ∃ n : Nat, wrap64 ((IntKind.u64.wrap b0).tmod 7) = (n : Int) ∧ n < 7 := by
  have h0 : 0 ≤ IntKind.u64.wrap b0 := by rw [IntKind.wrap_u64]; omega
  have h1 := Int.tmod_lt_of_pos (IntKind.u64.wrap b0) (show (0 : Int) < 7 by omega)
  have h2 := Int.tmod_nonneg 7 h0
  refine ⟨((IntKind.u64.wrap b0).tmod 7).toNat, ?_, by omega⟩
  rw [w64 (by omega) (by omega)]; omega
 have E_ := aS (And.intro e1 (And.intro e2 (And.intro e3 e4)))
 clear e1 e2 e3 e4
 obtain ⟨m1, hm1⟩ : ∃ m : Nat, m = 1 + n1 := ⟨_, rfl⟩
 obtain ⟨m2, hm2⟩ : ∃ m : Nat, m = 1 + n2 := ⟨_, rfl⟩
 obtain ⟨sm, hsm⟩ : ∃ m : Int, m = (a : Int) + b := ⟨_, rfl⟩
 obtain ⟨na, hna⟩ : ∃ m : Int, m = -(a : Int) := ⟨_, rfl⟩
 obtain ⟨nb, hnb⟩ : ∃ m : Int, m = -(b : Int) := ⟨_, rfl⟩
 obtain ⟨ns, hns⟩ : ∃ m : Int, m = -(a : Int) - b := ⟨_, rfl⟩
 have g1 : 1 + (n1 : Int) = (m1 : Int) ∧ -9223372036854775808 ≤ (m1 : Int) ∧ (m1 : Int) < 9223372036854775808 := by omega
 have g2 : 1 + (n2 : Int) = (m2 : Int) ∧ -9223372036854775808 ≤ (m2 : Int) ∧ (m2 : Int) < 9223372036854775808 := by omega
 have g3 : (a : Int) + (b : Int) = sm ∧ -9223372036854775808 ≤ sm ∧ sm < 9223372036854775808 := by omega
 have g4 : -(a : Int) = na ∧ -9223372036854775808 ≤ na ∧ na < 9223372036854775808 := by omega
 have g5 : -(b : Int) = nb ∧ -9223372036854775808 ≤ nb ∧ nb < 9223372036854775808 := by omega
 have g6 : na - (b : Int) = ns ∧ -9223372036854775808 ≤ ns ∧ ns < 9223372036854775808 := by omega
 have HAB := aS (show (a < 7 ∧ b < 7) ∧ sm = (a : Int) + b ∧ na = -(a : Int) ∧ nb = -(b : Int) ∧ ns = -(a : Int) - b from ⟨⟨e3', e4'⟩, hsm, hna, hnb, hns⟩)
 have HZ := aS (show gSize (m1 : Int) (m2 : Int) = true by unfold gSize; rw [decide_eq_true (by omega), decide_eq_true (by omega)]; rfl)
 have f1 : wrap64 (1 + (n1 : Int)) = (m1 : Int) := by rw [g1.1]; exact w64 g1.2.1 g1.2.2
 have f2 : wrap64 (1 + (n2 : Int)) = (m2 : Int) := by rw [g2.1]; exact w64 g2.2.1 g2.2.2
 have f3 : wrap64 ((a : Int) + (b : Int)) = sm := by rw [g3.1]; exact w64 g3.2.1 g3.2.2
 have f4 : wrap64 (-(a : Int)) = na := by rw [g4.1]; exact w64 g4.2.1 g4.2.2
 have f5 : wrap64 (-(b : Int)) = nb := by rw [g5.1]; exact w64 g5.2.1 g5.2.2
 have f6 : wrap64 (na - (b : Int)) = ns := by rw [g6.1]; exact w64 g6.2.1 g6.2.2
 have HF6 := aS (And.intro f3 (And.intro f4 (And.intro f5 f6)))
 have HBN := aS (show (∀ x : Int, x = a ∨ x = b ∨ x = sm ∨ x = na ∨ x = nb ∨ x = ns → -9223372036854775808 ≤ x ∧ x ≤ 9223372036854775807) from by
  clear f1 f2 f3 f4 f5 f6
  intro x hx
  omega)
 clear g1 g2 g3 g4 g5 g6 f3 f4 f5 f6
 clear e1' e2' e3' e4' hm1 hm2 hsm hna hnb hns
 obtain ⟨N1, hN1⟩ : ∃ n, acts.length = n := ⟨_, rfl⟩
 rw [hN1] at hC1 hc1 ⊢
 have HN1 := aS hN1
 have HC1 := aS hC1
 have HQ1 := aS hq1
 clear hN1 hC1 hq1 hc1
 obtain ⟨G0, hG0⟩ : ∃ G, gNew (m1 : Int) (m2 : Int) = G := ⟨_, rfl⟩
 have HG0 := aS hG0
 clear hG0
 obtain ⟨e1, e2, -, -⟩ := E_.out
 go_enter Try.func13, Try.ntmps13
 go_wp2_with (first | (refine bx 11 #[.int .u8 p0, .int .u8 p1, .int .u8 p2] 24 ?_; intro b11 hg_ w1 hx_ hb_; have E1 := aS (And.intro hx_ (And.intro hg_ hb_)); clear hg_ hx_ hb_) | (go_at_call 76; (with_reducible refine (New_any (m1 : Int) (m2 : Int) HZ.out w1).mono ?_); rintro e w2 ⟨ga, rfl, hF⟩; rw [HG0.out] at hF; have F2 := aS hF; go_must (have G2 := aS (And.left hF)); clear hF) | (go_at_call 82; go_must (with_reducible refine (Of_any G2.out).mono ?_); rintro e w3 ⟨b3, cap3, M3, rfl, -, hG3, hb⟩; have F3 := aS (And.intro hG3 hb); clear hG3 hb) | (refine bx 15 #[.slice none 0 0, .int .i64 0, .int .i64 0] 108 ?_; intro b15 hg_ w4 hx_ hb_; have E4 := aS (And.intro hg_ (And.intro hb_ hx_)); clear hg_ hx_ hb_) | ((with_reducible refine gate_store (t := 108) (p := 15) rfl ?_); go_must (refine step_whole (.tmp 15) (.tmp 42) rfl rfl rfl rfl rfl (E4.out.2.2) rfl (by kernel_rfl) (by simp [Value.oneCell']; done) ?_); intro w5 hx_ hg_; have E5 := aS (And.intro hg_ hx_); clear hx_ hg_))
 clear e1 e2 f1 f2
 obtain ⟨O1, hO1⟩ : ∃ O : Nat → Prop, O = (fun k => w1.heap.size ≤ k ∧ k < w2.heap.size) := ⟨_, rfl⟩
 obtain ⟨d1, hd1⟩ : ∃ O : Nat → Prop, O = (fun k => w2.heap.size ≤ k ∧ k < w3.heap.size) := ⟨_, rfl⟩
 have HT0 := aS (show SW w w5 O1 d1 ga G0 (.slice (some ⟨b3, 0, none⟩) M3 cap3) b15 [(b11, penO p0 p1 p2)] from by
  have s1 := E1.out.2.2.size
  have s2 := F2.out.2.size
  have s3 := F3.out.2.size
  have x1 := blk_lt E1.out.1
  have g1 := E1.out.2.1
  have g4 := E4.out.1
  have x4 := blk_lt E4.out.2.2
  have B4 : Below w3.heap.size w3 w4 := E4.out.2.1
  have B2 := below_step E1.out.2.2 F2.out.2
  have B3 := below_step B2 F3.out.2
  have B4' := below_step B3 B4
  have B5 := B4'.grown E5.out.1 B4'.size (fun k hk => by injection hk with hk; omega)
  subst hO1 hd1
  have p5 := ((((PL.new F2.out F3.out.1 (Below.refl _ _) F3.out.2).below B4).grown E5.out.1 (fun h => by have := h.2; omega) (fun h => by have := h.2; omega)).more s1)
  refine ⟨B5, p5, E5.out.2, ⟨by omega, fun h => by have := h.2; omega, fun h => by have := h.2; omega⟩, fun q hq => ?_⟩
  rw [List.mem_singleton] at hq
  subst hq
  exact ⟨blk_grown (blk_below (blk_below (blk_below E1.out.1 F2.out.2) F3.out.2) B4) E5.out.1 (fun e => by injection e with e; omega), by show w.heap.size ≤ b11; omega, fun h => by have : w1.heap.size ≤ b11 := h.1; omega, fun h => by have : w2.heap.size ≤ b11 := h.1; omega, by show b11 ≠ b15; omega⟩)
 clear E1 F2 G2 F3 E4 E5 hO1 hd1
 go_loopg [13, 16] 31 (fun kq v13 v16 w' => ∃ (i g : Nat) (G : GV) (v : Value) (O d : Nat → Prop), v13 = .pointer (some ⟨g, 0, none⟩) ∧ v16 = .int .i64 i ∧ Aside0 (kq = 31 - i ∧ i ≤ 30) ∧ Aside0 (SW w w' O d g G v b15 [(b11, penO p0 p1 p2)]))
 case atStart => exact ⟨0, ga, G0, _, O1, d1, rfl, by go_num, ⟨by omega, by omega⟩, HT0⟩
 case round =>
  clear HT0
  obtain ⟨i, g, G, v, O, d, rfl, rfl, HK, HT⟩ := hrel
  by_cases hh : i < N1 ∧ i < 30
  ·obtain ⟨hi, h4⟩ := hh
   have hT1 : decide (i < N1) = true := decide_eq_true hi
   have hT1' : decide ((i : Int) < (N1 : Int)) = true := decide_eq_true (by omega)
   have hT2 : decide (i < 30) = true := decide_eq_true h4
   have hT2' : decide ((i : Int) < 30) = true := decide_eq_true (by omega)
   have hw1 : wrap64 ((i : Int) + 1) = ((i + 1 : Nat) : Int) := by rw [w64 (by omega) (by omega)]; omega
   obtain ⟨Av, Nv, cv, rfl⟩ := RD.slice HT.out.p.rd
   obtain ⟨x, hx⟩ : ∃ x, acts[i]? = some x := ⟨_, List.getElem?_eq_getElem (by rw [HN1.out]; exact hi)⟩
   have ha := aw_of (HQ1.out x (List.mem_of_getElem? hx))
   obtain ⟨ad, Al, cl, rfl, ⟨hcl, hCl⟩, x0, x1, x2, x3, x4, x5, x6, x7, x8, x9, x10, x11, x12, x13, x14, x15⟩ := at_Act HC1.out i x hx
   clear hx
   obtain ⟨ac, hta⟩ : ∃ ac, toA x = ac := ⟨_, rfl⟩
   rw [hta] at ha hcl hCl x0 x1 x2 x3 x4 x5 x6 x7 x8 x9 x10 x11 x12 x13 x14 x15
   clear hta
   obtain ⟨n, hn⟩ : ∃ n, ac.l.length = n := ⟨_, rfl⟩
   rw [hn] at hcl hCl x15
   have HA := aS (And.intro ha (And.intro hn.symm (And.intro hcl hCl)))
   clear ha hn hcl hCl
   replace x0 := (HT.out.bel.cell (World.block_lt_of_cell? w _ x0)).trans x0
   replace x1 := (HT.out.bel.cell (World.block_lt_of_cell? w _ x1)).trans x1
   replace x2 := (HT.out.bel.cell (World.block_lt_of_cell? w _ x2)).trans x2
   replace x3 := (HT.out.bel.cell (World.block_lt_of_cell? w _ x3)).trans x3
   replace x4 := (HT.out.bel.cell (World.block_lt_of_cell? w _ x4)).trans x4
   replace x5 := (HT.out.bel.cell (World.block_lt_of_cell? w _ x5)).trans x5
   replace x6 := (HT.out.bel.cell (World.block_lt_of_cell? w _ x6)).trans x6
   replace x7 := (HT.out.bel.cell (World.block_lt_of_cell? w _ x7)).trans x7
   replace x8 := (HT.out.bel.cell (World.block_lt_of_cell? w _ x8)).trans x8
   replace x9 := (HT.out.bel.cell (World.block_lt_of_cell? w _ x9)).trans x9
   replace x10 := (HT.out.bel.cell (World.block_lt_of_cell? w _ x10)).trans x10
   replace x11 := (HT.out.bel.cell (World.block_lt_of_cell? w _ x11)).trans x11
   replace x12 := (HT.out.bel.cell (World.block_lt_of_cell? w _ x12)).trans x12
   replace x13 := (HT.out.bel.cell (World.block_lt_of_cell? w _ x13)).trans x13
   replace x14 := (HT.out.bel.cell (World.block_lt_of_cell? w _ x14)).trans x14
   replace x15 := (HT.out.bel.cell (World.block_lt_of_cell? w _ x15)).trans x15
   obtain ⟨y0, y1, y2⟩ := gcells HT.out.bx
   go_wp2
   refine start_ (n := 13) (S := fun w' => w'.cell? ⟨b15, 0, none⟩ = some (.slice Av Nv cv) ∧ w'.cell? ⟨b15, 1, none⟩ = some (.int .i64 G.row) ∧ w'.cell? ⟨b15, 2, none⟩ = some (.int .i64 G.col) ∧ w'.cell? (ad.add (i * 16)) = some (.int .i64 ac.k) ∧ w'.cell? ⟨(ad.add (i * 16)).block, (ad.add (i * 16)).off + 1, none⟩ = some (.int .i64 ac.r) ∧ w'.cell? ⟨(ad.add (i * 16)).block, (ad.add (i * 16)).off + 2, none⟩ = some (.int .i64 ac.c) ∧ w'.cell? ⟨(ad.add (i * 16)).block, (ad.add (i * 16)).off + 3, none⟩ = some (.int .i64 ac.t) ∧ w'.cell? ⟨(ad.add (i * 16)).block, (ad.add (i * 16)).off + 4, none⟩ = some (.int .i32 ac.x.f0) ∧ w'.cell? ⟨(ad.add (i * 16)).block, (ad.add (i * 16)).off + 5, none⟩ = some (.int .i32 ac.x.f1.f0) ∧ w'.cell? ⟨(ad.add (i * 16)).block, (ad.add (i * 16)).off + 6, none⟩ = some (.int .i32 ac.x.f1.f1) ∧ w'.cell? ⟨(ad.add (i * 16)).block, (ad.add (i * 16)).off + 7, none⟩ = some (.int .u8 ac.x.f2) ∧ w'.cell? ⟨(ad.add (i * 16)).block, (ad.add (i * 16)).off + 8, none⟩ = some (.int .u8 ac.x.f3.f0) ∧ w'.cell? ⟨(ad.add (i * 16)).block, (ad.add (i * 16)).off + 9, none⟩ = some (.int .u8 ac.x.f3.f1) ∧ w'.cell? ⟨(ad.add (i * 16)).block, (ad.add (i * 16)).off + 10, none⟩ = some (.int .u8 ac.x.f3.f2) ∧ w'.cell? ⟨(ad.add (i * 16)).block, (ad.add (i * 16)).off + 11, none⟩ = some (.int .i32 ac.m) ∧ w'.cell? ⟨(ad.add (i * 16)).block, (ad.add (i * 16)).off + 12, none⟩ = some (.int .u8 ac.p0) ∧ w'.cell? ⟨(ad.add (i * 16)).block, (ad.add (i * 16)).off + 13, none⟩ = some (.int .u8 ac.p1) ∧ w'.cell? ⟨(ad.add (i * 16)).block, (ad.add (i * 16)).off + 14, none⟩ = some (.int .u8 ac.p2) ∧ w'.cell? ⟨(ad.add (i * 16)).block, (ad.add (i * 16)).off + 15, none⟩ = some (.slice Al n cl)) (ds := [6, 12]) (tb 13 0) (by kernel_rfl) rfl rfl ⟨y0, y1, y2, x0, x1, x2, x3, x4, x5, x6, x7, x8, x9, x10, x11, x12, x13, x14, x15⟩ (fun hHeld => ?_)
   refine tP 0 (some 54) (tb 13 1) ?_
   refine tP 2 (some 56) (tb 13 5) ?_
   refine tP 3 (some 57) (tb 13 13) ?_
   refine tP 4 (some 58) (tb 13 29) ?_
   refine tK 1 (some 55) (tb 13 31) ?_
   refine tK 5 (some 59) (tb 13 63) ?_
   refine last_ (i := 6) (N := some 60) (tb 13 127) rfl rfl (by kernel_rfl) (by decide) (fun K hK => ?_)
   refine gO Try.func79 #[.pointer (some ⟨g, 0, none⟩), gV (.slice Av Nv cv) G, actV ac Al n cl] ?_
   with_reducible refine (HT.out.do_ bE ac HA.out.1 HA.out.2.1 HA.out.2.2.1 HA.out.2.2.2).mono ?_
   rintro e wc ⟨g1, A1', N1', c1', O1', d1', rfl, b1, hk⟩
   refine ⟨_, rfl, ?_⟩
   have H6 := aS (And.intro b1 hk)
   clear b1 hk
   refine hK.out _ _ ?_
   clear hK K
   refine nm ?_
   refine tP 7 (some 53) (tb 13 255) ?_
   refine tP 8 (some 61) (tb 13 511) ?_
   refine tP 9 (some 62) (tb 13 1023) ?_
   refine tP 10 (some 63) (tb 13 2047) ?_
   refine tP 11 (some 13) (tb 13 4095) ?_
   refine last_ (i := 12) (N := none) (tb 13 8191) rfl rfl (by kernel_rfl) (by decide) (fun K hK => ?_)
   refine whole_step (cs' := #[.slice A1' N1' c1', .int .i64 (doV G ac).row, .int .i64 (doV G ac).col]) (by rfl) (.tmp 15) (.tmp 62) rfl rfl (by rfl) (by rfl) H6.out.1 rfl (by kernel_rfl) (by simp [Value.oneCell']; done) ?_
   intro w12 hx_ hg_
   have H12 := aS (H6.out.2 _ hg_ hx_)
   clear hx_ hg_
   refine hK.out _ _ ?_
   clear hK K
   refine done_ (by kernel_rfl) ?_
   all_goals go_wp2
   all_goals go_roundg (31 - (i + 1))
   all_goals first | (case measure => have := HK.out; omega) | (case rel => exact ⟨i + 1, g1, doV G ac, _, O1', d1', rfl, by go_num, ⟨rfl, by omega⟩, H12⟩)
  ·have hor : (decide (i < N1) = false ∧ decide ((i : Int) < (N1 : Int)) = false) ∨ ((decide (i < N1) = true ∧ decide ((i : Int) < (N1 : Int)) = true) ∧ decide (i < 30) = false ∧ decide ((i : Int) < 30) = false) := by
    by_cases hi : i < N1
    ·right
     have h4 : ¬ i < 30 := fun h => hh ⟨hi, h⟩
     exact ⟨⟨decide_eq_true hi, decide_eq_true (by omega)⟩, decide_eq_false h4, decide_eq_false (by omega)⟩
    ·left
     exact ⟨decide_eq_false hi, decide_eq_false (by omega)⟩
   have HGG := aS (show gSame (gScroll (gScroll G a p0 p1 p2) b p0 p1 p2) (gScroll G sm p0 p1 p2) = true ∧ gSame (gScroll (gScroll G na p0 p1 p2) nb p0 p1 p2) (gScroll G ns p0 p1 p2) = true from by
    obtain ⟨-, h1, h2, h3, h4⟩ := HAB.out
    rw [h1, h2, h3, h4, scroll_U, scroll_D]
    exact ⟨gSame_self _, gSame_self _⟩)
   have HRC := aS (show (gScroll (gScroll G a p0 p1 p2) b p0 p1 p2).row = G.row ∧ (gScroll (gScroll G a p0 p1 p2) b p0 p1 p2).col = G.col from ⟨(scroll_rc _ _ _ _ _).1.trans (scroll_rc _ _ _ _ _).1, (scroll_rc _ _ _ _ _).2.trans (scroll_rc _ _ _ _ _).2⟩)
   have HBX := aS ((HT.out.gs _ List.mem_cons_self).1)
   have M0 := aS (MG.new wr)
   clear hh HK
   obtain ⟨-, -, e3, e4⟩ := E_.out
   obtain ⟨f3, f4, f5, f6⟩ := HF6.out
   rcases hor with ⟨hT1, hT1'⟩ | ⟨⟨hT1, hT1'⟩, hT2, hT2'⟩
   all_goals go_wp2_with (first | (go_at_call 73; (with_reducible refine (Copy_any (HT.out.p.gr.below M0.out.bel)).mono ?_); rintro e w10 ⟨gup, rfl, hF⟩; obtain ⟨Oup, hM⟩ := MG.fresh M0.out hF; have M10 := aS hM; clear hF hM) | (go_at_call 73; (with_reducible refine (Copy_any (HT.out.p.gr.below M10.out.bel)).mono ?_); rintro e w11 ⟨gdn, rfl, hF⟩; obtain ⟨Odn, hM⟩ := MG.fresh M10.out hF; have M11 := aS hM; clear hF hM) | (go_at_call 73; (with_reducible refine (Copy_any (HT.out.p.gr.below M11.out.bel)).mono ?_); rintro e w12 ⟨gxx, rfl, hF⟩; obtain ⟨Oxx, hM⟩ := MG.fresh M11.out hF; have M12 := aS hM; clear hF hM) | (go_at_call 73; (with_reducible refine (Copy_any (HT.out.p.gr.below M12.out.bel)).mono ?_); rintro e w13 ⟨gyy, rfl, hF⟩; obtain ⟨Oyy, hM⟩ := MG.fresh M12.out hF; have M13 := aS hM; clear hF hM; obtain ⟨z0, z1, z2⟩ := pnc (blk_below HBX.out M13.out.bel)) | (go_at_call 61; (with_reducible refine (Scroll_did (M13.out.gr (Oup, gup, G) (by simp)).1 (a : Int) p0 p1 p2 (HBN.out _ (by simp))).mono ?_); rintro e w14 ⟨rfl, hd⟩; obtain ⟨Oup', hM⟩ := MG.did (l1 := [(Oyy, gyy, G), (Oxx, gxx, G), (Odn, gdn, G)]) (l2 := []) M13.out hd; have M14 := aS hM; clear hd hM z0 z1 z2; obtain ⟨z0, z1, z2⟩ := pnc (blk_below HBX.out M14.out.bel)) | (go_at_call 61; (with_reducible refine (Scroll_did (M14.out.gr (Oup', gup, gScroll G a p0 p1 p2) (by simp)).1 (b : Int) p0 p1 p2 (HBN.out _ (by simp))).mono ?_); rintro e w15 ⟨rfl, hd⟩; obtain ⟨Oup'', hM⟩ := MG.did (l1 := [(Oyy, gyy, G), (Oxx, gxx, G), (Odn, gdn, G)]) (l2 := []) M14.out hd; have M15 := aS hM; clear hd hM z0 z1 z2; obtain ⟨z0, z1, z2⟩ := pnc (blk_below HBX.out M15.out.bel)) | (go_at_call 61; (with_reducible refine (Scroll_did (M15.out.gr (Oxx, gxx, G) (by simp)).1 sm p0 p1 p2 (HBN.out _ (by simp))).mono ?_); rintro e w16 ⟨rfl, hd⟩; obtain ⟨Oxx', hM⟩ := MG.did (l1 := [(Oyy, gyy, G)]) (l2 := [(Odn, gdn, G), (Oup'', gup, gScroll (gScroll G a p0 p1 p2) b p0 p1 p2)]) M15.out hd; have M16 := aS hM; clear hd hM z0 z1 z2; obtain ⟨z0, z1, z2⟩ := pnc (blk_below HBX.out M16.out.bel)) | (go_at_call 61; (with_reducible refine (Scroll_did (M16.out.gr (Odn, gdn, G) (by simp)).1 na p0 p1 p2 (HBN.out _ (by simp))).mono ?_); rintro e w17 ⟨rfl, hd⟩; obtain ⟨Odn', hM⟩ := MG.did (l1 := [(Oyy, gyy, G), (Oxx', gxx, gScroll G sm p0 p1 p2)]) (l2 := [(Oup'', gup, gScroll (gScroll G a p0 p1 p2) b p0 p1 p2)]) M16.out hd; have M17 := aS hM; clear hd hM z0 z1 z2; obtain ⟨z0, z1, z2⟩ := pnc (blk_below HBX.out M17.out.bel)) | (go_at_call 61; (with_reducible refine (Scroll_did (M17.out.gr (Odn', gdn, gScroll G na p0 p1 p2) (by simp)).1 nb p0 p1 p2 (HBN.out _ (by simp))).mono ?_); rintro e w18 ⟨rfl, hd⟩; obtain ⟨Odn'', hM⟩ := MG.did (l1 := [(Oyy, gyy, G), (Oxx', gxx, gScroll G sm p0 p1 p2)]) (l2 := [(Oup'', gup, gScroll (gScroll G a p0 p1 p2) b p0 p1 p2)]) M17.out hd; have M18 := aS hM; clear hd hM z0 z1 z2; obtain ⟨z0, z1, z2⟩ := pnc (blk_below HBX.out M18.out.bel)) | (go_at_call 61; (with_reducible refine (Scroll_did (M18.out.gr (Oyy, gyy, G) (by simp)).1 ns p0 p1 p2 (HBN.out _ (by simp))).mono ?_); rintro e w19 ⟨rfl, hd⟩; obtain ⟨Oyy', hM⟩ := MG.did (l1 := []) (l2 := [(Oxx', gxx, gScroll G sm p0 p1 p2), (Odn'', gdn, gScroll (gScroll G na p0 p1 p2) nb p0 p1 p2), (Oup'', gup, gScroll (gScroll G a p0 p1 p2) b p0 p1 p2)]) M18.out hd; have M19 := aS hM; clear hd hM z0 z1 z2) | (go_at_call 64; (with_reducible refine (known_any _).mono ?_); rintro e w20 ⟨rfl, hb⟩; have M20 := aS (M19.out.below hb); clear hb) | (go_at_call 80; (with_reducible refine (Same_any (M20.out.gr (Oup'', gup, gScroll (gScroll G a p0 p1 p2) b p0 p1 p2) (by simp)).1 (M20.out.gr (Oxx', gxx, gScroll G sm p0 p1 p2) (by simp)).1).mono ?_); rintro e w21 ⟨rfl, hb⟩; rw [HGG.out.1]; have M21 := aS (M20.out.below hb); clear hb) | (go_at_call 80; (with_reducible refine (Same_any (M21.out.gr (Odn'', gdn, gScroll (gScroll G na p0 p1 p2) nb p0 p1 p2) (by simp)).1 (M21.out.gr (Oyy', gyy, gScroll G ns p0 p1 p2) (by simp)).1).mono ?_); rintro e w22 ⟨rfl, hb⟩; rw [HGG.out.2]; have M22 := aS (M21.out.below hb); clear hb) | (go_at_call 67; (with_reducible refine (Row_any (M22.out.gr (Oup'', gup, gScroll (gScroll G a p0 p1 p2) b p0 p1 p2) (by simp)).1).mono ?_); rintro e w22 ⟨rfl, rfl⟩; rw [HRC.out.1]) | (go_at_call 67; (with_reducible refine (Row_any (HT.out.p.gr.below M22.out.bel)).mono ?_); rintro e w22 ⟨rfl, rfl⟩) | (go_at_call 68; (with_reducible refine (Col_any (M22.out.gr (Oup'', gup, gScroll (gScroll G a p0 p1 p2) b p0 p1 p2) (by simp)).1).mono ?_); rintro e w22 ⟨rfl, rfl⟩; rw [HRC.out.2]) | (go_at_call 68; (with_reducible refine (Col_any (HT.out.p.gr.below M22.out.bel)).mono ?_); rintro e w22 ⟨rfl, rfl⟩))
   all_goals go_ret
   all_goals exact ⟨by simp, HT.out.bel.trans (M22.out.bel.mono HT.out.bel.size)⟩
theorem own_GridScrolls : ownKnob Try.prog.godebug = none := by kernel_rfl
theorem laidOut_GridScrolls : laidOutB Try.prog = true := by kernel_rfl
set_option maxRecDepth 100000 in
theorem lifted_GridScrolls (os : Os) (started : os.Started) (H : Type) (enc : TypeId × Value → H) :
 ReturnsInHanded {} Try.checked os 13 .any (Rows.gridScrollsSpec.pre6 enc Try.prog Try.f13 Rows.gridScrollsRow.domain false) (Rows.gridScrollsSpec.post enc Try.prog Try.f13 false true false false) := by
 refine returnsInHanded_of_change (C := Try.checked) own_GridScrolls started (by kernel_rfl) Try.func13
  (ChangeSpec.witness6 (enc := enc) (C := Try.checked) false ⟨#[], #[.int .i64 0, .int .i64 0, .slice none 0 0, .int .i64 0, .int .i64 0, .agg #[.int .u8 0, .int .u8 0, .int .u8 0]], []⟩ 8 (by kernel_rfl) (by kernel_rfl) (by kernel_rfl) (by kernel_rfl)) ?_
 intro W base args ds gs before hval0 hW hcnd _
 have hval : ∀ (j : Nat) t v, Try.f13.params[j]? = some t → args[j]? = some v → Value.okWide Try.prog W .any base t v := hval0
 have hW' := hW
 obtain ⟨p, q, hA0, hV, rfl, hfz, hnd⟩ := hW
 have hA : DataW.TrodAll enc Try.prog W 0 (fun _ => true) true Try.f13.params.toList args.toList ds p := hA0
 rw [Try.params13] at hA hval
 obtain ⟨v0, vs0, d0, ds0, p0, q0, hargs, rfl, rfl, h0, r0⟩ := trodAll_cons hA
 obtain ⟨v1, vs1, d1, ds1, p1, q1, rfl, rfl, rfl, h1, r1⟩ := trodAll_cons r0
 obtain ⟨v2, vs2, d2, ds2, p2, q2, rfl, rfl, rfl, h2, r2⟩ := trodAll_cons r1
 obtain ⟨v3, vs3, d3, ds3, p3, q3, rfl, rfl, rfl, h3, r3⟩ := trodAll_cons r2
 obtain ⟨v4, vs4, d4, ds4, p4, q4, rfl, rfl, rfl, h4, r4⟩ := trodAll_cons r3
 obtain ⟨v5, vs5, d5, ds5, p5, q5, rfl, rfl, rfl, h5, r5⟩ := trodAll_cons r4
 obtain ⟨rfl, rfl, rfl⟩ := trodAll_nil r5
 obtain rfl : args = #[v0, v1, v2, v3, v4, v5] := by cases args; simp_all
 obtain ⟨rfl, rfl⟩ := trodVars_none hV
 obtain ⟨a0, rfl, rfl, rfl, w0⟩ := open_int Try.underlying3 (hval 0 3 v0 rfl rfl) h0
 obtain ⟨a1, rfl, rfl, rfl, w1⟩ := open_int Try.underlying3 (hval 1 3 v1 rfl rfl) h1
 obtain ⟨a2, len2, cap2, rfl⟩ := okWide_slice Try.underlying103 (hval 2 103 v2 rfl rfl)
 have k2 := h2
 have lt2 : ∀ x ∈ p2, x.block < W.heap.size := by obtain ⟨m, hm⟩ := k2; exact DataW.trod_lt m _ _ _ hm
 obtain ⟨l2, rfl, hC2, hc2, hq2⟩ := open_sl (Opn.slice (e := 87) (d := kdAct) (Q := wfAct) Try.underlying103 (by kernel_rfl) (fun {H} => @opn_Act H)) h2
 obtain ⟨a3, rfl, rfl, rfl, w3⟩ := open_int Try.underlying3 (hval 3 3 v3 rfl rfl) h3
 obtain ⟨a4, rfl, rfl, rfl, w4⟩ := open_int Try.underlying3 (hval 4 3 v4 rfl rfl) h4
 have k5 := h5
 have lt5 : ∀ x ∈ p5, x.block < W.heap.size := by obtain ⟨m, hm⟩ := k5; exact DataW.trod_lt m _ _ _ hm
 obtain ⟨x5, hK5, hq5⟩ := open_any (fun {H} => @opn_Pen H) h5
 refine (walk_GridScrolls a0 a1 a2 cap2 l2 a3 a4 v5 x5 W w0 w1 hC2 hc2 hq2 w3 w4 (hval 5 24 v5 rfl rfl) hK5 hq5).mono fun e W' ⟨he, bel⟩ => ?_
 subst he
 exact ⟨_, rfl, _, _, _, [], _, [], hW', trodAll_mk1 (shut_bool Try.underlying4 _), (trodAll_cons_mk (shut_int Try.underlying3 w0) (trodAll_cons_mk (shut_int Try.underlying3 w1) (trodAll_cons_mk (Below.trod laidOut_GridScrolls (by kernel_rfl) (of_decide_eq_true (by kernel_rfl)) k2 bel lt2) (trodAll_cons_mk (shut_int Try.underlying3 w3) (trodAll_cons_mk (shut_int Try.underlying3 w4) (trodAll_cons_mk (Below.trod laidOut_GridScrolls (by kernel_rfl) (of_decide_eq_true (by kernel_rfl)) k5 bel lt5) trodAll_mk0)))))), rfl, bel.frame _, fun h => by cases h⟩
theorem GridScrolls_holds : Rows.GridScrollsSaid :=
 OpenClaim.holds_of_wide 13 Try.f13 rfl rfl rfl rfl rfl rfl rfl ⟨rfl, rfl, rfl, rfl, rfl⟩ rfl rfl rfl rfl rfl (by kernel_rfl) Try.func13 (by kernel_rfl)
  (of_decide_eq_true (by kernel_rfl)) (by unfold Func.isWrapper; first | (rw [if_pos (by decide +kernel)]; kernel_rfl) | (rw [if_neg (by decide +kernel)]; exact ⟨rfl, rfl⟩))
  (fun os started H enc _ => lifted_GridScrolls os started H enc)
#print axioms GridScrolls_holds
end Go.Proofs.Ytblcmcdifgclcaa.Grd
