/- GridPlays: what its proof leads to. No condition. -/
import Derived.Test.YtblcmcdifgclcaaGreatG6qGridPlays
import Derived.Test.YtblcmcdifgclcaaGreatG23qGridPlays
import Derived.Test.YtblcmcdifgclcaaGreatG24qGridPlays
import Derived.Test.YtblcmcdifgclcaaGreatG27qGridPlays
import Derived.Test.YtblcmcdifgclcaaGreatG36qGridPlays
import Derived.Test.YtblcmcdifgclcaaGreatG39qGridPlays
import Derived.Test.YtblcmcdifgclcaaGreatG41qGridPlays
import Derived.Test.YtblcmcdifgclcaaGreatG42qGridPlays
import Derived.Test.YtblcmcdifgclcaaGreatG43qGridPlays
import Derived.Test.YtblcmcdifgclcaaGreatG44qGridPlays
import Derived.Test.YtblcmcdifgclcaaGreatG45qGridPlays
import Derived.Test.YtblcmcdifgclcaaGreatG46qGridPlays
namespace Go.Proofs.YtblcmcdifgclcaaGreat.Grd
open Go.RowKit Go.Proofs.YtblcmcdifgclcaaGreat Go.Proofs.YtblcmcdifgclcaaGreat.PGridPlays Go.Proofs.YtblcmcdifgclcaaGreatW.PrintWords Go.Proofs.YtblcmcdifgclcaaGreatW.PrintLast Go.Proofs.YtblcmcdifgclcaaGreatW.PrintMore
set_option linter.unusedVariables false
set_option linter.unusedSimpArgs false
set_option maxRecDepth 100000
set_option maxHeartbeats 4000000
attribute [local go_sem] isSome_setCell max2_int min2_int max_two min_two
def doV (G : GV) (a : AV) : GV :=
 if a.k = 0 then (gPut G a.r a.c a.x).1 else if a.k = 1 then (gMark G a.r a.c a.m).1 else if a.k = 2 then gErase G a.r a.c a.t a.p0 a.p1 a.p2 else if a.k = 3 then (gLay G a.r (a.l.take 30)).1 else if a.k = 4 then gMove G a.r a.c else if a.k = 5 then gScroll G a.r a.p0 a.p1 a.p2
 else if a.k = 6 then (if gSize (smallV a.r) (smallV a.c) = true then gFit G (smallV a.r) (smallV a.c) else G) else G
theorem Do_any {O okr : Nat → Prop} {w : World} {g : Nat} {G : GV} (h : GS O w g G) {A : Option Addr} {N c : Nat} (hR : RD kRL w okr (.slice A N c) (toL G.L)) (hn : ∀ k, okr k → ¬ O k) (a : AV) (ha : AW a) {Al : Option Addr} {Nl cl : Nat}
 {B : Nat} (hBw : B ≤ w.heap.size) (hBO : ∀ k, O k → B ≤ k) (hNl : Nl = a.l.length ∧ Nl ≤ cl) (hL : ∀ W', Below B w W' → Kd.C kCl W' Al Nl a.l) :
 Calls Tryz.prog 9 #[.pointer (some ⟨g, 0, none⟩), gV (.slice A N c) G, actV a Al Nl cl] w (DPost O okr w (doV G a)) := by
 unfold doV
 by_cases h0 : a.k = 0
 ·rw [if_pos h0]; exact do_0 h hR hn a ha h0
 rw [if_neg h0]
 by_cases h1 : a.k = 1
 ·rw [if_pos h1]; exact do_1 h hR hn a ha h1
 rw [if_neg h1]
 by_cases h2 : a.k = 2
 ·rw [if_pos h2]; exact do_2 h hR hn a ha h2
 rw [if_neg h2]
 by_cases h3 : a.k = 3
 ·rw [if_pos h3]; exact do_3 h hR hn a ha h3 hBw hBO hNl hL
 rw [if_neg h3]
 by_cases h4 : a.k = 4
 ·rw [if_pos h4]; exact do_4 h hR hn a ha h4
 rw [if_neg h4]
 by_cases h5 : a.k = 5
 ·rw [if_pos h5]; exact do_5 h hR hn a ha h5
 rw [if_neg h5]
 by_cases h6 : a.k = 6
 ·rw [if_pos h6]; exact do_6 h hR hn a ha h6
 rw [if_neg h6]
 by_cases h7 : a.k = 7
 ·exact do_7 h hR hn a ha h7
 exact do_x h hR hn a ha ⟨h0, h1, h2, h3, h4, h5, h6, h7⟩
structure PL (w W : World) (O d : Nat → Prop) (g : Nat) (G : GV) (v : Value) : Prop where
 gr : GS O W g G
 rd : RD kRL W d v (toL G.L)
 dn : ∀ k, d k → ¬ O k
 db : ∀ k, d k → k < W.heap.size
 on : ∀ k, O k → w.heap.size ≤ k
section
variable {w W W1 : World} {O O2 d : Nat → Prop} {g : Nat} {G G1 : GV} {v : Value}
theorem PL.wr (h : PL w W O d g G v) (hw : Wr O2 W W1) (ho : ∀ k, O k → ¬ O2 k) (hd : ∀ k, d k → ¬ O2 k) : PL w W1 O d g G v :=
 ⟨h.gr.wr hw ho, h.rd.wr hw hd, h.dn, fun k hk => Nat.lt_of_lt_of_le (h.db k hk) hw.size, h.on⟩
theorem PL.below (h : PL w W O d g G v) (hb : Below W.heap.size W W1) : PL w W1 O d g G v :=
 ⟨h.gr.below hb, h.rd.below hb, h.dn, fun k hk => Nat.lt_of_lt_of_le (h.db k hk) hb.size, h.on⟩
theorem PL.grown {b : Nat} (h : PL w W O d g G v) (hg : W.grownBy W1 (some b)) (ho : ¬ O b) (hd : ¬ d b) : PL w W1 O d g G v :=
 h.wr (O2 := fun k => k = b) ⟨hg.os, hg.tape, hg.output, hg.size, fun k hk hn => hg.block k hk (fun e => by injection e with e; exact hn e)⟩ (fun k hk e => ho (e ▸ hk)) (fun k hk e => hd (e ▸ hk))
theorem PL.act {e : Ending} (h : PL w W O d g G v) (hw : w.heap.size ≤ W.heap.size) (hd : DPost O d W G1 e W1) : ∃ g' v' O' d', e = .returned (.tuple #[.pointer (some ⟨g', 0, none⟩), gV v' G1, .bool true]) ∧ PL w W1 O' d' g' G1 v' ∧ Wr O W W1 ∧ (∀ k, O' k → O k ∨ W.heap.size ≤ k) ∧ (∀ k, d' k → d k ∨ W.heap.size ≤ k) := by
 obtain ⟨g', v', O', rfl, h1, h2, h3, h4⟩ := hd
 exact ⟨g', v', O', _, rfl, ⟨h1, h4.bound, fun k hk => hk.1.2, fun k hk => hk.2, fun k hk => (h2 k hk).elim (h.on k) (fun e => Nat.le_trans hw e)⟩, h3, h2, fun k hk => hk.1.1⟩
theorem PL.new {b cap N : Nat} {W2 : World} (hF : Fresh w W g G) (hL : RGL W2 (fun k => W1.heap.size ≤ k ∧ k < W2.heap.size) (.slice (some ⟨b, 0, none⟩) N cap) (toL G.L)) (h1 : Below W.heap.size W W1) (h2 : Below W1.heap.size W1 W2) : PL w W2 (fun k => w.heap.size ≤ k ∧ k < W.heap.size) (fun k => W1.heap.size ≤ k ∧ k < W2.heap.size) g G (.slice (some ⟨b, 0, none⟩) N cap) := by
 have hb : Below W.heap.size W W2 := below_then h1 h1.size h2
 exact ⟨hF.1.below hb, hL.rd (by rw [toL_len]; exact hF.1.ok.r2), fun k hk ho => by have := h1.size; have := hk.1; have := ho.2; omega, fun k hk => hk.2, fun k hk => hk.1⟩
end
end Go.Proofs.YtblcmcdifgclcaaGreat.Grd
namespace Go.Proofs.YtblcmcdifgclcaaGreat.Grd
open Go.ChangeShapes Go.WideShapes Go.RowKit Go.Proofs.YtblcmcdifgclcaaGreat Go.Proofs.YtblcmcdifgclcaaGreat.PGridPlays Go.Proofs.YtblcmcdifgclcaaGreatW.PrintWords Go.Proofs.YtblcmcdifgclcaaGreatW.PrintLast Go.Proofs.YtblcmcdifgclcaaGreatW.PrintMore
set_option linter.unusedVariables false
set_option linter.unusedSimpArgs false
set_option maxRecDepth 100000
set_option maxHeartbeats 4000000
theorem at_Act {W : World} {B : Option Addr} {n : Nat} {acts : List TAct} (h : kdAct.C W B n acts) (j : Nat) (x : TAct) (hx : acts[j]? = some x) : ∃ ad Al cl, B = some ad ∧ ((toA x).l.length ≤ cl ∧ Kd.C kCl W Al (toA x).l.length (toA x).l) ∧ W.cell? (ad.add (j * 16)) = some (.int .i64 (toA x).k) ∧ W.cell? ⟨(ad.add (j * 16)).block, (ad.add (j * 16)).off + 1, none⟩ = some (.int .i64 (toA x).r) ∧ W.cell? ⟨(ad.add (j * 16)).block, (ad.add (j * 16)).off + 2, none⟩ = some (.int .i64 (toA x).c) ∧ W.cell? ⟨(ad.add (j * 16)).block, (ad.add (j * 16)).off + 3, none⟩ = some (.int .i64 (toA x).t) ∧ W.cell? ⟨(ad.add (j * 16)).block, (ad.add (j * 16)).off + 4, none⟩ = some (.int .i32 (toA x).x.f0) ∧ W.cell? ⟨(ad.add (j * 16)).block, (ad.add (j * 16)).off + 5, none⟩ = some (.int .i32 (toA x).x.f1.f0) ∧ W.cell? ⟨(ad.add (j * 16)).block, (ad.add (j * 16)).off + 6, none⟩ = some (.int .i32 (toA x).x.f1.f1) ∧ W.cell? ⟨(ad.add (j * 16)).block, (ad.add (j * 16)).off + 7, none⟩ = some (.int .u8 (toA x).x.f2) ∧ W.cell? ⟨(ad.add (j * 16)).block, (ad.add (j * 16)).off + 8, none⟩ = some (.int .u8 (toA x).x.f3.f0) ∧ W.cell? ⟨(ad.add (j * 16)).block, (ad.add (j * 16)).off + 9, none⟩ = some (.int .u8 (toA x).x.f3.f1) ∧ W.cell? ⟨(ad.add (j * 16)).block, (ad.add (j * 16)).off + 10, none⟩ = some (.int .u8 (toA x).x.f3.f2) ∧ W.cell? ⟨(ad.add (j * 16)).block, (ad.add (j * 16)).off + 11, none⟩ = some (.int .i32 (toA x).m) ∧ W.cell? ⟨(ad.add (j * 16)).block, (ad.add (j * 16)).off + 12, none⟩ = some (.int .u8 (toA x).p0) ∧ W.cell? ⟨(ad.add (j * 16)).block, (ad.add (j * 16)).off + 13, none⟩ = some (.int .u8 (toA x).p1) ∧ W.cell? ⟨(ad.add (j * 16)).block, (ad.add (j * 16)).off + 14, none⟩ = some (.int .u8 (toA x).p2) ∧ W.cell? ⟨(ad.add (j * 16)).block, (ad.add (j * 16)).off + 15, none⟩ = some (.slice Al (toA x).l.length cl) := by
 have hn : 0 < acts.length := by have := (List.getElem?_eq_some_iff.1 hx).1; omega
 obtain ⟨h1, h2, h3⟩ := h
 obtain ⟨ad, e, hA⟩ := h3 (by omega)
 obtain ⟨c, hl, hK, hcell⟩ := hA j x hx
 obtain ⟨Al, cl, rfl, hcl, hC⟩ := act_K hK
 have hc : ∀ i u, (actL (toA x) Al (toA x).l.length cl)[i]? = some u → W.cell? (ad.add (j * 16 + i)) = some u := hcell
 exact ⟨ad, Al, cl, e, ⟨hcl, hC⟩, hc 0 _ rfl, by rw [← add_field _ _ 1 (by omega)]; exact hc 1 _ rfl, by rw [← add_field _ _ 2 (by omega)]; exact hc 2 _ rfl, by rw [← add_field _ _ 3 (by omega)]; exact hc 3 _ rfl, by rw [← add_field _ _ 4 (by omega)]; exact hc 4 _ rfl, by rw [← add_field _ _ 5 (by omega)]; exact hc 5 _ rfl, by rw [← add_field _ _ 6 (by omega)]; exact hc 6 _ rfl, by rw [← add_field _ _ 7 (by omega)]; exact hc 7 _ rfl, by rw [← add_field _ _ 8 (by omega)]; exact hc 8 _ rfl, by rw [← add_field _ _ 9 (by omega)]; exact hc 9 _ rfl, by rw [← add_field _ _ 10 (by omega)]; exact hc 10 _ rfl, by rw [← add_field _ _ 11 (by omega)]; exact hc 11 _ rfl, by rw [← add_field _ _ 12 (by omega)]; exact hc 12 _ rfl, by rw [← add_field _ _ 13 (by omega)]; exact hc 13 _ rfl, by rw [← add_field _ _ 14 (by omega)]; exact hc 14 _ rfl, by rw [← add_field _ _ 15 (by omega)]; exact hc 15 _ rfl⟩
section
variable {w W W1 W6 W7 W8 W9 : World} {O d O2 d2 : Nat → Prop} {g g2 b b2 : Nat} {G G2 G1 : GV} {v v2 : Value}
theorem PL.more {w2 : World} (h : PL w2 W O d g G v) (hs : w.heap.size ≤ w2.heap.size) : PL w W O d g G v := ⟨h.gr, h.rd, h.dn, h.db, fun k hk => Nat.le_trans hs (h.on k hk)⟩
end
end Go.Proofs.YtblcmcdifgclcaaGreat.Grd
