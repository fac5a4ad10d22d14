/- GridPlays: what its proof leads to. No condition. -/
import Derived.Test.YtblcmcdifgclcaaGreatG6qGridPlays
import Derived.Test.YtblcmcdifgclcaaGreatG23qGridPlays
import Derived.Test.YtblcmcdifgclcaaGreatG24qGridPlays
import Derived.Test.YtblcmcdifgclcaaGreatG26qGridPlays
import Derived.Test.YtblcmcdifgclcaaGreatG28qGridPlays
import Derived.Test.YtblcmcdifgclcaaGreatG35qGridPlays
import Derived.Test.YtblcmcdifgclcaaGreatG36qGridPlays
import Derived.Test.YtblcmcdifgclcaaGreatG37qGridPlays
namespace Go.Proofs.YtblcmcdifgclcaaGreat.Grd
open Go.RowKit Go.Proofs.YtblcmcdifgclcaaGreat Go.Proofs.YtblcmcdifgclcaaGreat.PGridPlays Go.Proofs.YtblcmcdifgclcaaGreatW.PrintWords Go.Proofs.YtblcmcdifgclcaaGreatW.PrintLast Go.Proofs.YtblcmcdifgclcaaGreatW.PrintMore
set_option linter.unusedVariables false
set_option linter.unusedSimpArgs false
set_option maxRecDepth 100000
set_option maxHeartbeats 4000000
attribute [local go_sem] isSome_setCell max2_int min2_int max_two min_two
theorem infoRL : (Tryz.prog.info? 72).map (fun i => (i.zero, i.size, i.bytes)) = some (some (.slice none 0 0), 1, 24) := by kernel_rfl
theorem roll_get {L : List (List CS)} {s : Int} (b : List CS) (hs : -(L.length : Int) ≤ s ∧ s ≤ L.length) {r : Nat} (hr : r < L.length) : (gRoll L s b)[r]? = if 0 ≤ (r : Int) + s ∧ (r : Int) + s < L.length then L[((r : Int) + s).toNat]? else some b := by
 unfold gRoll
 by_cases h0 : 0 ≤ s
 ·rw [if_pos h0]
  by_cases h1 : (r : Int) + s < L.length
  ·rw [if_pos ⟨by omega, h1⟩, List.getElem?_append_left (by rw [List.length_drop]; omega), List.getElem?_drop]
   congr 1
   omega
  ·rw [if_neg (fun h => h1 h.2), List.getElem?_append_right (by rw [List.length_drop]; omega), List.getElem?_replicate, if_pos (by rw [List.length_drop]; omega)]
 ·rw [if_neg h0]
  by_cases h1 : 0 ≤ (r : Int) + s
  ·rw [if_pos ⟨h1, by omega⟩, List.getElem?_append_right (by rw [List.length_replicate]; omega), List.length_replicate, List.getElem?_take, if_pos (by omega)]
   congr 1
   omega
  ·rw [if_neg (fun h => h1 h.1), List.getElem?_append_left (by rw [List.length_replicate]; omega), List.getElem?_replicate, if_pos (by omega)]
theorem toL_more {L : List (List CS)} {i : Nat} {l : List CS} (h : L[i]? = some l) : toL (L.take (i + 1)) = toL (L.take i) ++ [l.map toR] := by rw [take_more h]; simp [toL]
theorem RD.rowK {W : World} {ok : Nat → Prop} {ad : Addr} {N c : Nat} {L : List (List CS)} (h : RD kRL W ok (.slice (some ad) N c) (toL L)) {n : Nat} {l : List CS} (hl : L[n]? = some l) :
 ∃ A' c', W.cell? (ad.add n) = some (.slice A' l.length c') ∧ Kd.FK kRL W ok (l.map toR) [.slice A' l.length c'] := by
 obtain ⟨A', c', h1, h2, h3⟩ := h.row hl
 refine ⟨A', c', h1, ?_⟩
 have h := Kd.FK_slice_mk (e := 52) (d := kRC) (c := c') (A := A') (l := l.map toR) (W := W) (ok := ok) (by rw [List.length_map]; exact h2) (by rw [List.length_map]; exact h3)
 rw [List.length_map] at h
 exact h
theorem rNewF_any (cols : Int) (lz : List CS) (h : prolepsisref06_New.f 1000 cols = some (lz.map toR)) (W : World) : Calls Tryz.prog 29 #[.int .i64 cols] W fun e w' => ∃ A c, e = .returned (.slice A lz.length c) ∧ lz.length ≤ c ∧ Kd.F kRC w' (fun k => W.heap.size ≤ k) A lz.length (lz.map toR) ∧ Below W.heap.size W w' := by
 refine (prolepsisref06_New.calls 1000 cols _ W h).mono ?_
 rintro e w' ⟨v, rfl, hR, hb⟩
 obtain ⟨A, c, rfl, hc, hF⟩ := RD.ofR hR
 rw [List.length_map] at hc hF ⊢
 exact ⟨A, c, rfl, hc, hF, hb⟩
theorem rEraseK_any (l : List CS) (a b p0 p1 p2 : Int) (hl : l.length ≤ 1000) (A : Option Addr) (c : Nat) (w : World) (ok : Nat → Prop) (hc : l.length ≤ c) (hF : Kd.F kRC w ok A l.length (l.map toR)) (lb : List CS) (hlb : eraseC l a b p0 p1 p2 = lb) :
 Calls Tryz.prog 72 #[.slice A l.length c, .int .i64 a, .int .i64 b, penV p0 p1 p2] w fun e w' => ∃ A' M c', e = .returned (.slice A' M c') ∧ Kd.FK kRL w' (fun k => w.heap.size ≤ k) (lb.map toR) [.slice A' M c'] ∧ Below w.heap.size w w' := by
 subst hlb
 refine (rErase_any l a b p0 p1 p2 hl A c w ok hc hF).mono ?_
 rintro e w' ⟨v, rfl, ⟨A', c', rfl, hc', hF'⟩, hb⟩
 exact ⟨A', _, c', rfl, Kd.FK_slice_mk hc' hF', hb⟩
theorem rgScroll_any {G : GV} (hk : G.ok) {w : World} {ok : Nat → Prop} {A : Option Addr} {N c : Nat} (hR : RD kRL w ok (.slice A N c) (toL G.L)) (n p0 p1 p2 : Int) (hnb : -9223372036854775808 ≤ n ∧ n ≤ 9223372036854775807) :
 Calls Tryz.prog 41 #[gV (.slice A N c) G, .int .i64 n, penV p0 p1 p2] w (GPost w ok (gScroll G n p0 p1 p2)) := by
 have HR := aS hR.bound
 have HK := aS hk
 by_cases hp : penR p0 p1 p2 = true
 ·have HPR := aS (show prolepsisref04_Right.f p0 p1 p2 = some true by rw [r4_ok, hp])
  have hNN : N = G.L.length := by obtain ⟨A', c', he, -, -⟩ := hR; injection he with e1 e2 e3; rw [e2, toL_len]
  obtain ⟨ad, rfl⟩ : ∃ ad, A = some ad := by
   obtain ⟨A', c', he, -, hF⟩ := hR
   injection he with e1 e2 e3
   subst e1
   obtain ⟨ad, cs, h1, -⟩ := Kd.F_get hF [] 0 (by omega) (by have := hk.r1; rw [toL_len]; omega)
   exact ⟨ad, h1⟩
  obtain ⟨s, hs⟩ : ∃ s, gShift n N = s := ⟨_, rfl⟩
  have hsb := gShift_in n N
  rw [hs] at hsb
  have hres : gScroll G n p0 p1 p2 = { G with L := gRoll G.L s (gBlank G.cols p0 p1 p2) } := by unfold gScroll; rw [if_pos hp, ← hNN, hs]
  rw [hres]
  obtain ⟨lb, hlb⟩ : ∃ lb, gBlank G.cols p0 p1 p2 = lb := ⟨_, rfl⟩
  rw [hlb]
  obtain ⟨RL, hRL⟩ : ∃ RL, gRoll G.L s lb = RL := ⟨_, rfl⟩
  rw [hRL]
  have HRL := aS (And.intro hRL (show RL.length = N by rw [← hRL, gRoll_len lb (by rw [← hNN]; exact hsb), hNN]))
  obtain ⟨lz, hlz⟩ : ∃ lz, List.replicate (lenC (G.cols : Int)) (blankP 0 0 0) = lz := ⟨_, rfl⟩
  have HNW := aS (show prolepsisref06_New.f 1000 (G.cols : Int) = some (lz.map toR) by rw [rNew_ok (G.cols : Int) 1000 (by omega), hlz])
  have hzl : lz.length ≤ 1000 := by rw [← hlz, List.length_replicate]; have := (lenC_eq (G.cols : Int)).2; omega
  have HZL := aS (And.intro hzl (show eraseC lz 0 (G.cols : Int) p0 p1 p2 = lb by rw [← hlb, ← hlz]; rfl))
  have HSB := aS (And.intro hsb (And.intro hNN (And.intro hk.r1 hk.r2)))
  have hwn : wrap64 (-(N : Int)) = -(N : Int) := w64 (by have := hk.r2; omega) (by omega)
  have HGS := aS (show (n > (N : Int) ∧ s = N) ∨ (¬ n > (N : Int) ∧ n < -(N : Int) ∧ s = -(N : Int)) ∨ (¬ n > (N : Int) ∧ ¬ n < -(N : Int) ∧ s = n) by rw [← hs]; unfold gShift mn mx; split <;> split <;> omega)
  clear hR hk hp hNN hs hsb hres hlb hRL hlz hzl hnb
  rcases HGS.out with ⟨h1, hs⟩ | ⟨h1, h2, hs⟩ | ⟨h1, h2, hs⟩
  ·subst hs
   have hT1 : decide (n > (N : Int)) = true := decide_eq_true h1
   have hT2 : decide ((N : Int) < n) = true := decide_eq_true h1
   have hT3 : decide ((N : Int) < -(N : Int)) = false := decide_eq_false (by omega)
   clear h1
   go_enter Tryz.func41, Tryz.ntmps41
   go_wp2_with (first | (refine bx 3 #[.slice (some ad) N c, .int .i64 G.row, .int .i64 G.col] 32 ?_; intro g4 hg_ w1 hx_ hb_; go_must (have Qw1 := aS (QW.box (o := .cells #[.slice (some ad) N c, .int .i64 G.row, .int .i64 G.col] 32 (0, 0)) (QW.new w) hx_ hg_ hb_)); clear hg_ hx_ hb_) | (refine bx 5 #[.int .u8 p0, .int .u8 p1, .int .u8 p2] 50 ?_; intro g9 hg_ w2 hx_ hb_; go_must (have Qw2 := aS (QW.box (o := .cells #[.int .u8 p0, .int .u8 p1, .int .u8 p2] 50 (0, 0)) Qw1.out hx_ hg_ hb_)); clear hg_ hx_ hb_) | (refine bx 6 #[.slice none 0 0, .int .i64 0, .int .i64 0] 32 ?_; intro g8 hg_ w3 hx_ hb_; go_must (have Qw3 := aS (QW.box (o := .cells #[.slice none 0 0, .int .i64 0, .int .i64 0] 32 (0, 0)) Qw2.out hx_ hg_ hb_)); clear hg_ hx_ hb_; obtain ⟨g40, g41, g42⟩ := gcells (Qw3.out.bx (g4, gB (.slice (some ad) N c) G) (by simp)).1; obtain ⟨p00, p01, p02⟩ := pcells (Qw3.out.bx (g9, penR4 p0 p1 p2) (by simp)).1) | (go_at_call 71; go_must (refine (prolepsisref04_Right.calls p0 p1 p2 _ _ HPR.out).mono ?_); rintro e w4 ⟨rfl, hb_⟩; have Qw4 := aS (Qw3.out.below hb_); clear hb_; obtain ⟨g40, g41, g42⟩ := gcells (Qw4.out.bx (g4, gB (.slice (some ad) N c) G) (by simp)).1; obtain ⟨p00, p01, p02⟩ := pcells (Qw4.out.bx (g9, penR4 p0 p1 p2) (by simp)).1))
   have HBX := aS (And.intro (Qw4.out.bx (g4, gB (.slice (some ad) N c) G) (by simp)).1 (And.intro (Qw4.out.bx (g9, penR4 p0 p1 p2) (by simp)).1 Qw4.out.hb))
   obtain ⟨B0, hB0⟩ : ∃ B0, w4.heap.size = B0 := ⟨_, rfl⟩
   have HB0 := aS hB0
   clear hB0 hwn hT1 hT2 hT3 HGS
   go_loopg [8, 9] (N + 1) (fun kq v8 v9 w' => ∃ (i : Nat), v9 = .int .i64 i ∧ Aside0 (kq = N - i + 1 ∧ i ≤ N) ∧ Aside0 (Below w4.heap.size w4 w' ∧ Kd.N kRL 72 w' B0 (fun k => (ok k ∧ k < w.heap.size) ∨ B0 ≤ k) v8 (toL (RL.take i))))
   case atStart => exact ⟨0, by go_num, ⟨by omega, by omega⟩, ⟨Below.refl _ _, Kd.N_nil _ _ _ _ _⟩⟩
   case round =>
    obtain ⟨i, rfl, HK2, HB⟩ := hrel
    by_cases hi : i < N
    ·have hT : decide (i < N) = true := decide_eq_true (by omega)
     have hiN := HSB.out
     have hw1 : wrap64 ((i : Int) + 1) = ((i + 1 : Nat) : Int) := by rw [w64 (by omega) (by omega)]; omega
     obtain ⟨x, hx⟩ : ∃ x, (i : Int) + (N : Int) = x := ⟨_, rfl⟩
     have hwx : wrap64 ((i : Int) + (N : Int)) = x := by rw [w64 (by omega) (by omega)]; exact hx
     have hgt := roll_get (L := G.L) (s := (N : Int)) lb (by rw [← hiN.2.1]; omega) (r := i) (by omega)
     rw [HRL.out.1, hx] at hgt
     have HLN := aS (show (toL (RL.take i)).length ≤ 512 by rw [toL_len, List.length_take]; omega)
     have HBW := aS (below_then HBX.out.2.2 HBX.out.2.2.size HB.out.1)
     have HSZ := aS (show w.heap.size ≤ B0 ∧ B0 ≤ wr.heap.size from ⟨by rw [← HB0.out]; exact HBX.out.2.2.size, by rw [← HB0.out]; exact HB.out.1.size⟩)
     obtain ⟨y0, y1, y2⟩ := gcells (blk_below HBX.out.1 HB.out.1)
     by_cases hin : 0 ≤ x ∧ x < (G.L.length : Int)
     ·rw [if_pos hin] at hgt
      obtain ⟨j, rfl⟩ : ∃ j : Nat, x = (j : Int) := ⟨x.toNat, by omega⟩
      have hjN : j < N := by omega
      rw [Int.toNat_natCast] at hgt
      obtain ⟨l, hl⟩ : ∃ l, G.L[j]? = some l := ⟨_, List.getElem?_eq_getElem (by omega)⟩
      rw [hl] at hgt
      have HGT := aS hgt
      obtain ⟨A1, c1, hcl, hFK⟩ := HR.out.rowK hl
      have r4 := pw_cell_below HBW.out hcl
      have HFK := aS (Kd.FK_below hFK HBW.out)
      have hT2 : decide (j < N) = true := decide_eq_true hjN
      clear hgt hl hcl hFK hin hx hiN
      go_wp2_with (first | ((with_reducible refine gate_builtin (b := .append) (xs := #[.tmp 43, .tmp 51]) rfl ?_); go_must (at_builtin); go_must (refine Kd.N_append kRL (w0 := w4) B0 rfl (.tmp 43) (.tmp 51) 30 72 (.slice none 0 0) 24 rfl Tryz.underlying30 infoRL rfl (by decide) (by omega) u8 (toL (RL.take i)) (l.map toR) [.slice A1 l.length c1] (fun k => (ok k ∧ k < w.heap.size) ∨ B0 ≤ k) (fun k => ok k ∧ k < w.heap.size) rfl rfl HFK.out ?hokp ?hfresh HB.out.2 (show Below B0 w4 wr by rw [← HB0.out]; exact HB.out.1) HSZ.out.2 ?hlen ?_); go_must (case hokp => intro k hk; exact ⟨.inl hk, fun e => by have h1 := Kd.N_base HB.out.2 k e.symm; have h2 := HSZ.out.1; omega⟩); go_must (case hfresh => intro k hk; exact .inr (Nat.le_trans HSZ.out.2 hk)); go_must (case hlen => have := HLN.out; omega); intro v8 w8 ho hb hg8 hat; rw [← toL_more HGT.out] at ho; rw [← HB0.out] at hb; have H8 := aS (And.intro hb ho); clear ho hb hg8 hat))
      all_goals go_roundg (N - (i + 1) + 1)
      all_goals first | (case measure => have := HK2.out; omega) | (case rel => exact ⟨i + 1, by go_num, ⟨rfl, by omega⟩, H8⟩)
     ·rw [if_neg hin] at hgt
      have HGT := aS hgt
      obtain ⟨z0, z1, z2⟩ := pcells (blk_below HBX.out.2.1 HB.out.1)
      have HY := aS (And.intro y0 (And.intro y1 (And.intro y2 (And.intro z0 (And.intro z1 z2)))))
      by_cases hx0 : 0 ≤ x
      ·have hT2 : decide (0 ≤ x) = true := decide_eq_true hx0
       have hT3 : decide (x < (N : Int)) = false := decide_eq_false (by omega)
       clear hgt hin hx hiN hx0
       go_wp2
       refine start_ (n := 11) (S := fun w' => w'.cell? ⟨g4, 0, none⟩ = some (.slice (some ad) N c) ∧ w'.cell? ⟨g4, 1, none⟩ = some (.int .i64 G.row) ∧ w'.cell? ⟨g4, 2, none⟩ = some (.int .i64 G.col) ∧ w'.cell? ⟨g9, 0, none⟩ = some (.int .u8 p0) ∧ w'.cell? ⟨g9, 1, none⟩ = some (.int .u8 p1) ∧ w'.cell? ⟨g9, 2, none⟩ = some (.int .u8 p2)) (ds := [9, 10]) (tb 11 0) (by kernel_rfl) rfl rfl ⟨y0, y1, y2, z0, z1, z2⟩ (fun hHeld => ?_)
       refine tP 0 (some 53) (tb 11 1) ?_
       refine tK 1 (some 54) (tb 11 3) ?_
       refine tK 4 (some 57) (tb 11 19) ?_
       refine tK 6 (some 59) (tb 11 83) ?_
       refine sO 2 (some 55) (tb 11 87) (fun K hK => ?_)
       refine gO Tryz.func19 #[gV (.slice (some ad) N c) G] ?_
       with_reducible refine (rCols_any ((HR.out.below HBW.out).below bE) HK.out).mono ?_
       rintro e w5 ⟨rfl, hb⟩
       refine ⟨_, rfl, ?_⟩
       have H5 := aS (show Below wr.heap.size wr w5 from below_step bE hb)
       clear hb
       refine hK.out _ _ ⟨(pw_cell_below H5.out HY.out.1), (pw_cell_below H5.out HY.out.2.1), (pw_cell_below H5.out HY.out.2.2.1), (pw_cell_below H5.out HY.out.2.2.2.1), (pw_cell_below H5.out HY.out.2.2.2.2.1), (pw_cell_below H5.out HY.out.2.2.2.2.2)⟩ (fun hHeld => ?_)
       clear hK K
       refine nm ?_
       refine sO 3 (some 56) (tb 11 95) (fun K hK => ?_)
       refine gO Tryz.func29 #[.int .i64 G.cols] ?_
       with_reducible refine (rNewF_any (G.cols : Int) lz HNW.out _).mono ?_
       rintro e w6 ⟨A6, c6, rfl, hc6, hF6, hb⟩
       refine ⟨_, rfl, ?_⟩
       have H6 := aS (And.intro (below_step H5.out hb) (And.intro hc6 hF6))
       clear hb hc6 hF6
       refine hK.out _ _ ⟨(pw_cell_below H6.out.1 HY.out.1), (pw_cell_below H6.out.1 HY.out.2.1), (pw_cell_below H6.out.1 HY.out.2.2.1), (pw_cell_below H6.out.1 HY.out.2.2.2.1), (pw_cell_below H6.out.1 HY.out.2.2.2.2.1), (pw_cell_below H6.out.1 HY.out.2.2.2.2.2)⟩ (fun hHeld => ?_)
       clear hK K
       refine nm ?_
       refine sO 5 (some 58) (tb 11 127) (fun K hK => ?_)
       refine gO Tryz.func19 #[gV (.slice (some ad) N c) G] ?_
       with_reducible refine (rCols_any ((HR.out.below HBW.out).below H6.out.1) HK.out).mono ?_
       rintro e w7 ⟨rfl, hb⟩
       refine ⟨_, rfl, ?_⟩
       have H7 := aS (And.intro (below_step H6.out.1 hb) (And.intro H6.out.2.1 (Kd.F_below H6.out.2.2 hb)))
       clear hb
       refine hK.out _ _ ⟨(pw_cell_below H7.out.1 HY.out.1), (pw_cell_below H7.out.1 HY.out.2.1), (pw_cell_below H7.out.1 HY.out.2.2.1), (pw_cell_below H7.out.1 HY.out.2.2.2.1), (pw_cell_below H7.out.1 HY.out.2.2.2.2.1), (pw_cell_below H7.out.1 HY.out.2.2.2.2.2)⟩ (fun hHeld => ?_)
       clear hK K
       refine nm ?_
       refine sO 7 (some 60) (tb 11 255) (fun K hK => ?_)
       refine gO Tryz.func72 #[.slice A6 lz.length c6, .int .i64 0, .int .i64 G.cols, penV p0 p1 p2] ?_
       with_reducible refine (rEraseK_any lz 0 (G.cols : Int) p0 p1 p2 HZL.out.1 A6 c6 _ _ H7.out.2.1 H7.out.2.2 lb HZL.out.2).mono ?_
       rintro e w8 ⟨A8, M8, c8, rfl, hK8, hb⟩
       refine ⟨_, rfl, ?_⟩
       have H8 := aS (And.intro (below_step H7.out.1 hb) (Kd.FK_mono hK8 (ok' := fun k => B0 ≤ k) (fun k hk => Nat.le_trans (Nat.le_trans HSZ.out.2 H7.out.1.size) hk)))
       have HB8 := aS (And.intro (Kd.N_bound HB.out.2) (show ∀ k, u8.ownBlock = some k → k < w7.heap.size from fun k hk => Nat.lt_of_lt_of_le (Kd.N_lt HB.out.2 k hk) H7.out.1.size))
       have HK8 := aS (Kd.FK_bound hK8)
       clear hb hK8
       refine hK.out _ _ ⟨(pw_cell_below H8.out.1 HY.out.1), (pw_cell_below H8.out.1 HY.out.2.1), (pw_cell_below H8.out.1 HY.out.2.2.1), (pw_cell_below H8.out.1 HY.out.2.2.2.1), (pw_cell_below H8.out.1 HY.out.2.2.2.2.1), (pw_cell_below H8.out.1 HY.out.2.2.2.2.2)⟩ (fun hHeld => ?_)
       clear hK K
       refine nm ?_
       refine sO 8 (some 61) (tb 11 511) (fun K hK => ?_)
       refine value_ (w1 := ?_) (v := ?_) (by rfl) rfl ?_ ?_
       rotate_left 2
       ·go_simp
        constructor
        ·rfl
        ·rfl
       refine hK.out _ _ ⟨(pw_cell_below (below_alloc H8.out.1 _) HY.out.1), (pw_cell_below (below_alloc H8.out.1 _) HY.out.2.1), (pw_cell_below (below_alloc H8.out.1 _) HY.out.2.2.1), (pw_cell_below (below_alloc H8.out.1 _) HY.out.2.2.2.1), (pw_cell_below (below_alloc H8.out.1 _) HY.out.2.2.2.2.1), (pw_cell_below (below_alloc H8.out.1 _) HY.out.2.2.2.2.2)⟩ (fun hHeld => ?_)
       clear hK K
       refine nm ?_
       refine last_ (i := 9) (N := some 62) (tb 11 1023) rfl rfl (by kernel_rfl) (by decide) (fun K hK => ?_)
       refine Kd.N_append_step kRL (w0 := w4) B0 (by rfl) (.tmp 53) (.tmp 61) 30 72 (.slice none 0 0) 24 (by rfl) Tryz.underlying30 infoRL rfl (by decide) (by omega) u8 (toL (RL.take i)) (lb.map toR) [.slice A8 M8 c8] (fun k => (ok k ∧ k < w.heap.size) ∨ B0 ≤ k) (fun k => w7.heap.size ≤ k ∧ k < w8.heap.size) (by rfl) (by rfl) HK8.out ?hokp ?hfresh (Kd.N_below HB.out.2 H8.out.1) ((show Below B0 w4 wr by rw [← HB0.out]; exact HB.out.1).trans (H8.out.1.mono HSZ.out.2)) (Nat.le_trans HSZ.out.2 H8.out.1.size) ?hlen ?_
       case hokp => intro k hk; exact ⟨.inr (Nat.le_trans (Nat.le_trans HSZ.out.2 H7.out.1.size) hk.1), fun e => by have := HB8.out.2 k e.symm; omega⟩
       case hfresh => intro k hk; exact .inr (Nat.le_trans (Nat.le_trans HSZ.out.2 H8.out.1.size) hk)
       case hlen => have := HLN.out; omega
       intro v9 w9 ho hb hg9 hat
       rw [← toL_more HGT.out] at ho
       rw [← HB0.out] at hb
       have H9 := aS (And.intro hb ho)
       clear ho hb hg9 hat
       refine hK.out _ _ ?_
       clear hK K
       refine nm ?_
       refine tP 10 (some 8) (tb 11 2047) ?_
       refine done_ (by kernel_rfl) ?_
       all_goals go_wp2
       all_goals go_roundg (N - (i + 1) + 1)
       all_goals first | (case measure => have := HK2.out; omega) | (case rel => exact ⟨i + 1, by go_num, ⟨rfl, by omega⟩, H9⟩)
      ·have hT2 : decide (0 ≤ x) = false := decide_eq_false hx0
       clear hgt hin hx hiN hx0
       go_wp2
       refine start_ (n := 11) (S := fun w' => w'.cell? ⟨g4, 0, none⟩ = some (.slice (some ad) N c) ∧ w'.cell? ⟨g4, 1, none⟩ = some (.int .i64 G.row) ∧ w'.cell? ⟨g4, 2, none⟩ = some (.int .i64 G.col) ∧ w'.cell? ⟨g9, 0, none⟩ = some (.int .u8 p0) ∧ w'.cell? ⟨g9, 1, none⟩ = some (.int .u8 p1) ∧ w'.cell? ⟨g9, 2, none⟩ = some (.int .u8 p2)) (ds := [9, 10]) (tb 11 0) (by kernel_rfl) rfl rfl ⟨y0, y1, y2, z0, z1, z2⟩ (fun hHeld => ?_)
       refine tP 0 (some 53) (tb 11 1) ?_
       refine tK 1 (some 54) (tb 11 3) ?_
       refine tK 4 (some 57) (tb 11 19) ?_
       refine tK 6 (some 59) (tb 11 83) ?_
       refine sO 2 (some 55) (tb 11 87) (fun K hK => ?_)
       refine gO Tryz.func19 #[gV (.slice (some ad) N c) G] ?_
       with_reducible refine (rCols_any ((HR.out.below HBW.out).below bE) HK.out).mono ?_
       rintro e w5 ⟨rfl, hb⟩
       refine ⟨_, rfl, ?_⟩
       have H5 := aS (show Below wr.heap.size wr w5 from below_step bE hb)
       clear hb
       refine hK.out _ _ ⟨(pw_cell_below H5.out HY.out.1), (pw_cell_below H5.out HY.out.2.1), (pw_cell_below H5.out HY.out.2.2.1), (pw_cell_below H5.out HY.out.2.2.2.1), (pw_cell_below H5.out HY.out.2.2.2.2.1), (pw_cell_below H5.out HY.out.2.2.2.2.2)⟩ (fun hHeld => ?_)
       clear hK K
       refine nm ?_
       refine sO 3 (some 56) (tb 11 95) (fun K hK => ?_)
       refine gO Tryz.func29 #[.int .i64 G.cols] ?_
       with_reducible refine (rNewF_any (G.cols : Int) lz HNW.out _).mono ?_
       rintro e w6 ⟨A6, c6, rfl, hc6, hF6, hb⟩
       refine ⟨_, rfl, ?_⟩
       have H6 := aS (And.intro (below_step H5.out hb) (And.intro hc6 hF6))
       clear hb hc6 hF6
       refine hK.out _ _ ⟨(pw_cell_below H6.out.1 HY.out.1), (pw_cell_below H6.out.1 HY.out.2.1), (pw_cell_below H6.out.1 HY.out.2.2.1), (pw_cell_below H6.out.1 HY.out.2.2.2.1), (pw_cell_below H6.out.1 HY.out.2.2.2.2.1), (pw_cell_below H6.out.1 HY.out.2.2.2.2.2)⟩ (fun hHeld => ?_)
       clear hK K
       refine nm ?_
       refine sO 5 (some 58) (tb 11 127) (fun K hK => ?_)
       refine gO Tryz.func19 #[gV (.slice (some ad) N c) G] ?_
       with_reducible refine (rCols_any ((HR.out.below HBW.out).below H6.out.1) HK.out).mono ?_
       rintro e w7 ⟨rfl, hb⟩
       refine ⟨_, rfl, ?_⟩
       have H7 := aS (And.intro (below_step H6.out.1 hb) (And.intro H6.out.2.1 (Kd.F_below H6.out.2.2 hb)))
       clear hb
       refine hK.out _ _ ⟨(pw_cell_below H7.out.1 HY.out.1), (pw_cell_below H7.out.1 HY.out.2.1), (pw_cell_below H7.out.1 HY.out.2.2.1), (pw_cell_below H7.out.1 HY.out.2.2.2.1), (pw_cell_below H7.out.1 HY.out.2.2.2.2.1), (pw_cell_below H7.out.1 HY.out.2.2.2.2.2)⟩ (fun hHeld => ?_)
       clear hK K
       refine nm ?_
       refine sO 7 (some 60) (tb 11 255) (fun K hK => ?_)
       refine gO Tryz.func72 #[.slice A6 lz.length c6, .int .i64 0, .int .i64 G.cols, penV p0 p1 p2] ?_
       with_reducible refine (rEraseK_any lz 0 (G.cols : Int) p0 p1 p2 HZL.out.1 A6 c6 _ _ H7.out.2.1 H7.out.2.2 lb HZL.out.2).mono ?_
       rintro e w8 ⟨A8, M8, c8, rfl, hK8, hb⟩
       refine ⟨_, rfl, ?_⟩
       have H8 := aS (And.intro (below_step H7.out.1 hb) (Kd.FK_mono hK8 (ok' := fun k => B0 ≤ k) (fun k hk => Nat.le_trans (Nat.le_trans HSZ.out.2 H7.out.1.size) hk)))
       have HB8 := aS (And.intro (Kd.N_bound HB.out.2) (show ∀ k, u8.ownBlock = some k → k < w7.heap.size from fun k hk => Nat.lt_of_lt_of_le (Kd.N_lt HB.out.2 k hk) H7.out.1.size))
       have HK8 := aS (Kd.FK_bound hK8)
       clear hb hK8
       refine hK.out _ _ ⟨(pw_cell_below H8.out.1 HY.out.1), (pw_cell_below H8.out.1 HY.out.2.1), (pw_cell_below H8.out.1 HY.out.2.2.1), (pw_cell_below H8.out.1 HY.out.2.2.2.1), (pw_cell_below H8.out.1 HY.out.2.2.2.2.1), (pw_cell_below H8.out.1 HY.out.2.2.2.2.2)⟩ (fun hHeld => ?_)
       clear hK K
       refine nm ?_
       refine sO 8 (some 61) (tb 11 511) (fun K hK => ?_)
       refine value_ (w1 := ?_) (v := ?_) (by rfl) rfl ?_ ?_
       rotate_left 2
       ·go_simp
        constructor
        ·rfl
        ·rfl
       refine hK.out _ _ ⟨(pw_cell_below (below_alloc H8.out.1 _) HY.out.1), (pw_cell_below (below_alloc H8.out.1 _) HY.out.2.1), (pw_cell_below (below_alloc H8.out.1 _) HY.out.2.2.1), (pw_cell_below (below_alloc H8.out.1 _) HY.out.2.2.2.1), (pw_cell_below (below_alloc H8.out.1 _) HY.out.2.2.2.2.1), (pw_cell_below (below_alloc H8.out.1 _) HY.out.2.2.2.2.2)⟩ (fun hHeld => ?_)
       clear hK K
       refine nm ?_
       refine last_ (i := 9) (N := some 62) (tb 11 1023) rfl rfl (by kernel_rfl) (by decide) (fun K hK => ?_)
       refine Kd.N_append_step kRL (w0 := w4) B0 (by rfl) (.tmp 53) (.tmp 61) 30 72 (.slice none 0 0) 24 (by rfl) Tryz.underlying30 infoRL rfl (by decide) (by omega) u8 (toL (RL.take i)) (lb.map toR) [.slice A8 M8 c8] (fun k => (ok k ∧ k < w.heap.size) ∨ B0 ≤ k) (fun k => w7.heap.size ≤ k ∧ k < w8.heap.size) (by rfl) (by rfl) HK8.out ?hokp ?hfresh (Kd.N_below HB.out.2 H8.out.1) ((show Below B0 w4 wr by rw [← HB0.out]; exact HB.out.1).trans (H8.out.1.mono HSZ.out.2)) (Nat.le_trans HSZ.out.2 H8.out.1.size) ?hlen ?_
       case hokp => intro k hk; exact ⟨.inr (Nat.le_trans (Nat.le_trans HSZ.out.2 H7.out.1.size) hk.1), fun e => by have := HB8.out.2 k e.symm; omega⟩
       case hfresh => intro k hk; exact .inr (Nat.le_trans (Nat.le_trans HSZ.out.2 H8.out.1.size) hk)
       case hlen => have := HLN.out; omega
       intro v9 w9 ho hb hg9 hat
       rw [← toL_more HGT.out] at ho
       rw [← HB0.out] at hb
       have H9 := aS (And.intro hb ho)
       clear ho hb hg9 hat
       refine hK.out _ _ ?_
       clear hK K
       refine nm ?_
       refine tP 10 (some 8) (tb 11 2047) ?_
       refine done_ (by kernel_rfl) ?_
       all_goals go_wp2
       all_goals go_roundg (N - (i + 1) + 1)
       all_goals first | (case measure => have := HK2.out; omega) | (case rel => exact ⟨i + 1, by go_num, ⟨rfl, by omega⟩, H9⟩)
    ·have hT : decide (i < N) = false := decide_eq_false hi
     obtain rfl : N = i := by have := HK2.out; omega
     clear hi
     obtain ⟨y0, y1, y2⟩ := gcells (blk_below HBX.out.1 HB.out.1)
     obtain ⟨A9, c9, h9⟩ := Kd.N_slice HB.out.2
     obtain ⟨N9, hN9⟩ : ∃ N9, (toL (RL.take N)).length = N9 := ⟨_, rfl⟩
     rw [hN9] at h9
     subst h9
     have Q9 := aS (And.intro (Qw4.out.below HB.out.1) (RD.ofN HB.out.2))
     clear hN9
     go_wp2_with (first | ((with_reducible refine gate_store (t := 32) (p := 6) rfl ?_); go_must (refine step_whole (.tmp 6) (.tmp 68) rfl rfl rfl rfl rfl (Q9.out.1.bx (g8, gZ) (by simp)).1 rfl (by kernel_rfl) (by simp [Value.oneCell']; done) ?_); intro w9 hx_ hg_; have Qw9 := aS (And.intro (QW.store (l1 := []) (l2 := [(g9, penR4 p0 p1 p2), (g4, gB (.slice (some ad) N c) G)]) (o' := gB (.slice A9 N9 c9) G) Q9.out.1 hx_ hg_) hg_); clear hx_ hg_))
     refine bodyPost_ret (results_cell_row rfl _ _ g8 32 _ (0, 0) _ rfl (Qw9.out.1.bx (g8, gB (.slice A9 N9 c9) G) (by simp)).1 Tryz.underlying32 rfl (by kernel_rfl)) rfl ?_
     exact ⟨_, rfl, RD.fin (W5 := w4) (by have h := Q9.out.2; rw [List.take_of_length_le (by rw [HRL.out.2]; exact Nat.le_refl _)] at h; rw [HB0.out]; exact h) Qw9.out.2 (Qw4.out.bx (g8, gZ) (by simp)).2 (blk_lt (Qw4.out.bx (g8, gZ) (by simp)).1), Qw9.out.1.hb⟩
  ·subst hs
   have hT1 : decide (n > (N : Int)) = false := decide_eq_false h1
   have hT2 : decide ((N : Int) < n) = false := decide_eq_false h1
   have hT3 : decide (n < -(N : Int)) = true := decide_eq_true h2
   clear h1 h2
   go_enter Tryz.func41, Tryz.ntmps41
   go_wp2_with (first | (refine bx 3 #[.slice (some ad) N c, .int .i64 G.row, .int .i64 G.col] 32 ?_; intro g4 hg_ w1 hx_ hb_; go_must (have Qw1 := aS (QW.box (o := .cells #[.slice (some ad) N c, .int .i64 G.row, .int .i64 G.col] 32 (0, 0)) (QW.new w) hx_ hg_ hb_)); clear hg_ hx_ hb_) | (refine bx 5 #[.int .u8 p0, .int .u8 p1, .int .u8 p2] 50 ?_; intro g9 hg_ w2 hx_ hb_; go_must (have Qw2 := aS (QW.box (o := .cells #[.int .u8 p0, .int .u8 p1, .int .u8 p2] 50 (0, 0)) Qw1.out hx_ hg_ hb_)); clear hg_ hx_ hb_) | (refine bx 6 #[.slice none 0 0, .int .i64 0, .int .i64 0] 32 ?_; intro g8 hg_ w3 hx_ hb_; go_must (have Qw3 := aS (QW.box (o := .cells #[.slice none 0 0, .int .i64 0, .int .i64 0] 32 (0, 0)) Qw2.out hx_ hg_ hb_)); clear hg_ hx_ hb_; obtain ⟨g40, g41, g42⟩ := gcells (Qw3.out.bx (g4, gB (.slice (some ad) N c) G) (by simp)).1; obtain ⟨p00, p01, p02⟩ := pcells (Qw3.out.bx (g9, penR4 p0 p1 p2) (by simp)).1) | (go_at_call 71; go_must (refine (prolepsisref04_Right.calls p0 p1 p2 _ _ HPR.out).mono ?_); rintro e w4 ⟨rfl, hb_⟩; have Qw4 := aS (Qw3.out.below hb_); clear hb_; obtain ⟨g40, g41, g42⟩ := gcells (Qw4.out.bx (g4, gB (.slice (some ad) N c) G) (by simp)).1; obtain ⟨p00, p01, p02⟩ := pcells (Qw4.out.bx (g9, penR4 p0 p1 p2) (by simp)).1))
   have HBX := aS (And.intro (Qw4.out.bx (g4, gB (.slice (some ad) N c) G) (by simp)).1 (And.intro (Qw4.out.bx (g9, penR4 p0 p1 p2) (by simp)).1 Qw4.out.hb))
   obtain ⟨B0, hB0⟩ : ∃ B0, w4.heap.size = B0 := ⟨_, rfl⟩
   have HB0 := aS hB0
   clear hB0 hwn hT1 hT2 hT3 HGS
   go_loopg [8, 9] (N + 1) (fun kq v8 v9 w' => ∃ (i : Nat), v9 = .int .i64 i ∧ Aside0 (kq = N - i + 1 ∧ i ≤ N) ∧ Aside0 (Below w4.heap.size w4 w' ∧ Kd.N kRL 72 w' B0 (fun k => (ok k ∧ k < w.heap.size) ∨ B0 ≤ k) v8 (toL (RL.take i))))
   case atStart => exact ⟨0, by go_num, ⟨by omega, by omega⟩, ⟨Below.refl _ _, Kd.N_nil _ _ _ _ _⟩⟩
   case round =>
    obtain ⟨i, rfl, HK2, HB⟩ := hrel
    by_cases hi : i < N
    ·have hT : decide (i < N) = true := decide_eq_true (by omega)
     have hiN := HSB.out
     have hw1 : wrap64 ((i : Int) + 1) = ((i + 1 : Nat) : Int) := by rw [w64 (by omega) (by omega)]; omega
     obtain ⟨x, hx⟩ : ∃ x, (i : Int) + (-(N : Int)) = x := ⟨_, rfl⟩
     have hwx : wrap64 ((i : Int) + wrap64 (-(N : Int))) = x := by rw [show wrap64 (-(N : Int)) = -(N : Int) from w64 (by omega) (by omega), w64 (by omega) (by omega)]; exact hx
     have hgt := roll_get (L := G.L) (s := (-(N : Int))) lb (by rw [← hiN.2.1]; omega) (r := i) (by omega)
     rw [HRL.out.1, hx] at hgt
     have HLN := aS (show (toL (RL.take i)).length ≤ 512 by rw [toL_len, List.length_take]; omega)
     have HBW := aS (below_then HBX.out.2.2 HBX.out.2.2.size HB.out.1)
     have HSZ := aS (show w.heap.size ≤ B0 ∧ B0 ≤ wr.heap.size from ⟨by rw [← HB0.out]; exact HBX.out.2.2.size, by rw [← HB0.out]; exact HB.out.1.size⟩)
     obtain ⟨y0, y1, y2⟩ := gcells (blk_below HBX.out.1 HB.out.1)
     by_cases hin : 0 ≤ x ∧ x < (G.L.length : Int)
     ·rw [if_pos hin] at hgt
      obtain ⟨j, rfl⟩ : ∃ j : Nat, x = (j : Int) := ⟨x.toNat, by omega⟩
      have hjN : j < N := by omega
      rw [Int.toNat_natCast] at hgt
      obtain ⟨l, hl⟩ : ∃ l, G.L[j]? = some l := ⟨_, List.getElem?_eq_getElem (by omega)⟩
      rw [hl] at hgt
      have HGT := aS hgt
      obtain ⟨A1, c1, hcl, hFK⟩ := HR.out.rowK hl
      have r4 := pw_cell_below HBW.out hcl
      have HFK := aS (Kd.FK_below hFK HBW.out)
      have hT2 : decide (j < N) = true := decide_eq_true hjN
      clear hgt hl hcl hFK hin hx hiN
      go_wp2_with (first | ((with_reducible refine gate_builtin (b := .append) (xs := #[.tmp 43, .tmp 51]) rfl ?_); go_must (at_builtin); go_must (refine Kd.N_append kRL (w0 := w4) B0 rfl (.tmp 43) (.tmp 51) 30 72 (.slice none 0 0) 24 rfl Tryz.underlying30 infoRL rfl (by decide) (by omega) u8 (toL (RL.take i)) (l.map toR) [.slice A1 l.length c1] (fun k => (ok k ∧ k < w.heap.size) ∨ B0 ≤ k) (fun k => ok k ∧ k < w.heap.size) rfl rfl HFK.out ?hokp ?hfresh HB.out.2 (show Below B0 w4 wr by rw [← HB0.out]; exact HB.out.1) HSZ.out.2 ?hlen ?_); go_must (case hokp => intro k hk; exact ⟨.inl hk, fun e => by have h1 := Kd.N_base HB.out.2 k e.symm; have h2 := HSZ.out.1; omega⟩); go_must (case hfresh => intro k hk; exact .inr (Nat.le_trans HSZ.out.2 hk)); go_must (case hlen => have := HLN.out; omega); intro v8 w8 ho hb hg8 hat; rw [← toL_more HGT.out] at ho; rw [← HB0.out] at hb; have H8 := aS (And.intro hb ho); clear ho hb hg8 hat))
      all_goals go_roundg (N - (i + 1) + 1)
      all_goals first | (case measure => have := HK2.out; omega) | (case rel => exact ⟨i + 1, by go_num, ⟨rfl, by omega⟩, H8⟩)
     ·rw [if_neg hin] at hgt
      have HGT := aS hgt
      obtain ⟨z0, z1, z2⟩ := pcells (blk_below HBX.out.2.1 HB.out.1)
      have HY := aS (And.intro y0 (And.intro y1 (And.intro y2 (And.intro z0 (And.intro z1 z2)))))
      by_cases hx0 : 0 ≤ x
      ·have hT2 : decide (0 ≤ x) = true := decide_eq_true hx0
       have hT3 : decide (x < (N : Int)) = false := decide_eq_false (by omega)
       clear hgt hin hx hiN hx0
       go_wp2
       refine start_ (n := 11) (S := fun w' => w'.cell? ⟨g4, 0, none⟩ = some (.slice (some ad) N c) ∧ w'.cell? ⟨g4, 1, none⟩ = some (.int .i64 G.row) ∧ w'.cell? ⟨g4, 2, none⟩ = some (.int .i64 G.col) ∧ w'.cell? ⟨g9, 0, none⟩ = some (.int .u8 p0) ∧ w'.cell? ⟨g9, 1, none⟩ = some (.int .u8 p1) ∧ w'.cell? ⟨g9, 2, none⟩ = some (.int .u8 p2)) (ds := [9, 10]) (tb 11 0) (by kernel_rfl) rfl rfl ⟨y0, y1, y2, z0, z1, z2⟩ (fun hHeld => ?_)
       refine tP 0 (some 53) (tb 11 1) ?_
       refine tK 1 (some 54) (tb 11 3) ?_
       refine tK 4 (some 57) (tb 11 19) ?_
       refine tK 6 (some 59) (tb 11 83) ?_
       refine sO 2 (some 55) (tb 11 87) (fun K hK => ?_)
       refine gO Tryz.func19 #[gV (.slice (some ad) N c) G] ?_
       with_reducible refine (rCols_any ((HR.out.below HBW.out).below bE) HK.out).mono ?_
       rintro e w5 ⟨rfl, hb⟩
       refine ⟨_, rfl, ?_⟩
       have H5 := aS (show Below wr.heap.size wr w5 from below_step bE hb)
       clear hb
       refine hK.out _ _ ⟨(pw_cell_below H5.out HY.out.1), (pw_cell_below H5.out HY.out.2.1), (pw_cell_below H5.out HY.out.2.2.1), (pw_cell_below H5.out HY.out.2.2.2.1), (pw_cell_below H5.out HY.out.2.2.2.2.1), (pw_cell_below H5.out HY.out.2.2.2.2.2)⟩ (fun hHeld => ?_)
       clear hK K
       refine nm ?_
       refine sO 3 (some 56) (tb 11 95) (fun K hK => ?_)
       refine gO Tryz.func29 #[.int .i64 G.cols] ?_
       with_reducible refine (rNewF_any (G.cols : Int) lz HNW.out _).mono ?_
       rintro e w6 ⟨A6, c6, rfl, hc6, hF6, hb⟩
       refine ⟨_, rfl, ?_⟩
       have H6 := aS (And.intro (below_step H5.out hb) (And.intro hc6 hF6))
       clear hb hc6 hF6
       refine hK.out _ _ ⟨(pw_cell_below H6.out.1 HY.out.1), (pw_cell_below H6.out.1 HY.out.2.1), (pw_cell_below H6.out.1 HY.out.2.2.1), (pw_cell_below H6.out.1 HY.out.2.2.2.1), (pw_cell_below H6.out.1 HY.out.2.2.2.2.1), (pw_cell_below H6.out.1 HY.out.2.2.2.2.2)⟩ (fun hHeld => ?_)
       clear hK K
       refine nm ?_
       refine sO 5 (some 58) (tb 11 127) (fun K hK => ?_)
       refine gO Tryz.func19 #[gV (.slice (some ad) N c) G] ?_
       with_reducible refine (rCols_any ((HR.out.below HBW.out).below H6.out.1) HK.out).mono ?_
       rintro e w7 ⟨rfl, hb⟩
       refine ⟨_, rfl, ?_⟩
       have H7 := aS (And.intro (below_step H6.out.1 hb) (And.intro H6.out.2.1 (Kd.F_below H6.out.2.2 hb)))
       clear hb
       refine hK.out _ _ ⟨(pw_cell_below H7.out.1 HY.out.1), (pw_cell_below H7.out.1 HY.out.2.1), (pw_cell_below H7.out.1 HY.out.2.2.1), (pw_cell_below H7.out.1 HY.out.2.2.2.1), (pw_cell_below H7.out.1 HY.out.2.2.2.2.1), (pw_cell_below H7.out.1 HY.out.2.2.2.2.2)⟩ (fun hHeld => ?_)
       clear hK K
       refine nm ?_
       refine sO 7 (some 60) (tb 11 255) (fun K hK => ?_)
       refine gO Tryz.func72 #[.slice A6 lz.length c6, .int .i64 0, .int .i64 G.cols, penV p0 p1 p2] ?_
       with_reducible refine (rEraseK_any lz 0 (G.cols : Int) p0 p1 p2 HZL.out.1 A6 c6 _ _ H7.out.2.1 H7.out.2.2 lb HZL.out.2).mono ?_
       rintro e w8 ⟨A8, M8, c8, rfl, hK8, hb⟩
       refine ⟨_, rfl, ?_⟩
       have H8 := aS (And.intro (below_step H7.out.1 hb) (Kd.FK_mono hK8 (ok' := fun k => B0 ≤ k) (fun k hk => Nat.le_trans (Nat.le_trans HSZ.out.2 H7.out.1.size) hk)))
       have HB8 := aS (And.intro (Kd.N_bound HB.out.2) (show ∀ k, u8.ownBlock = some k → k < w7.heap.size from fun k hk => Nat.lt_of_lt_of_le (Kd.N_lt HB.out.2 k hk) H7.out.1.size))
       have HK8 := aS (Kd.FK_bound hK8)
       clear hb hK8
       refine hK.out _ _ ⟨(pw_cell_below H8.out.1 HY.out.1), (pw_cell_below H8.out.1 HY.out.2.1), (pw_cell_below H8.out.1 HY.out.2.2.1), (pw_cell_below H8.out.1 HY.out.2.2.2.1), (pw_cell_below H8.out.1 HY.out.2.2.2.2.1), (pw_cell_below H8.out.1 HY.out.2.2.2.2.2)⟩ (fun hHeld => ?_)
       clear hK K
       refine nm ?_
       refine sO 8 (some 61) (tb 11 511) (fun K hK => ?_)
       refine value_ (w1 := ?_) (v := ?_) (by rfl) rfl ?_ ?_
       rotate_left 2
       ·go_simp
        constructor
        ·rfl
        ·rfl
       refine hK.out _ _ ⟨(pw_cell_below (below_alloc H8.out.1 _) HY.out.1), (pw_cell_below (below_alloc H8.out.1 _) HY.out.2.1), (pw_cell_below (below_alloc H8.out.1 _) HY.out.2.2.1), (pw_cell_below (below_alloc H8.out.1 _) HY.out.2.2.2.1), (pw_cell_below (below_alloc H8.out.1 _) HY.out.2.2.2.2.1), (pw_cell_below (below_alloc H8.out.1 _) HY.out.2.2.2.2.2)⟩ (fun hHeld => ?_)
       clear hK K
       refine nm ?_
       refine last_ (i := 9) (N := some 62) (tb 11 1023) rfl rfl (by kernel_rfl) (by decide) (fun K hK => ?_)
       refine Kd.N_append_step kRL (w0 := w4) B0 (by rfl) (.tmp 53) (.tmp 61) 30 72 (.slice none 0 0) 24 (by rfl) Tryz.underlying30 infoRL rfl (by decide) (by omega) u8 (toL (RL.take i)) (lb.map toR) [.slice A8 M8 c8] (fun k => (ok k ∧ k < w.heap.size) ∨ B0 ≤ k) (fun k => w7.heap.size ≤ k ∧ k < w8.heap.size) (by rfl) (by rfl) HK8.out ?hokp ?hfresh (Kd.N_below HB.out.2 H8.out.1) ((show Below B0 w4 wr by rw [← HB0.out]; exact HB.out.1).trans (H8.out.1.mono HSZ.out.2)) (Nat.le_trans HSZ.out.2 H8.out.1.size) ?hlen ?_
       case hokp => intro k hk; exact ⟨.inr (Nat.le_trans (Nat.le_trans HSZ.out.2 H7.out.1.size) hk.1), fun e => by have := HB8.out.2 k e.symm; omega⟩
       case hfresh => intro k hk; exact .inr (Nat.le_trans (Nat.le_trans HSZ.out.2 H8.out.1.size) hk)
       case hlen => have := HLN.out; omega
       intro v9 w9 ho hb hg9 hat
       rw [← toL_more HGT.out] at ho
       rw [← HB0.out] at hb
       have H9 := aS (And.intro hb ho)
       clear ho hb hg9 hat
       refine hK.out _ _ ?_
       clear hK K
       refine nm ?_
       refine tP 10 (some 8) (tb 11 2047) ?_
       refine done_ (by kernel_rfl) ?_
       all_goals go_wp2
       all_goals go_roundg (N - (i + 1) + 1)
       all_goals first | (case measure => have := HK2.out; omega) | (case rel => exact ⟨i + 1, by go_num, ⟨rfl, by omega⟩, H9⟩)
      ·have hT2 : decide (0 ≤ x) = false := decide_eq_false hx0
       clear hgt hin hx hiN hx0
       go_wp2
       refine start_ (n := 11) (S := fun w' => w'.cell? ⟨g4, 0, none⟩ = some (.slice (some ad) N c) ∧ w'.cell? ⟨g4, 1, none⟩ = some (.int .i64 G.row) ∧ w'.cell? ⟨g4, 2, none⟩ = some (.int .i64 G.col) ∧ w'.cell? ⟨g9, 0, none⟩ = some (.int .u8 p0) ∧ w'.cell? ⟨g9, 1, none⟩ = some (.int .u8 p1) ∧ w'.cell? ⟨g9, 2, none⟩ = some (.int .u8 p2)) (ds := [9, 10]) (tb 11 0) (by kernel_rfl) rfl rfl ⟨y0, y1, y2, z0, z1, z2⟩ (fun hHeld => ?_)
       refine tP 0 (some 53) (tb 11 1) ?_
       refine tK 1 (some 54) (tb 11 3) ?_
       refine tK 4 (some 57) (tb 11 19) ?_
       refine tK 6 (some 59) (tb 11 83) ?_
       refine sO 2 (some 55) (tb 11 87) (fun K hK => ?_)
       refine gO Tryz.func19 #[gV (.slice (some ad) N c) G] ?_
       with_reducible refine (rCols_any ((HR.out.below HBW.out).below bE) HK.out).mono ?_
       rintro e w5 ⟨rfl, hb⟩
       refine ⟨_, rfl, ?_⟩
       have H5 := aS (show Below wr.heap.size wr w5 from below_step bE hb)
       clear hb
       refine hK.out _ _ ⟨(pw_cell_below H5.out HY.out.1), (pw_cell_below H5.out HY.out.2.1), (pw_cell_below H5.out HY.out.2.2.1), (pw_cell_below H5.out HY.out.2.2.2.1), (pw_cell_below H5.out HY.out.2.2.2.2.1), (pw_cell_below H5.out HY.out.2.2.2.2.2)⟩ (fun hHeld => ?_)
       clear hK K
       refine nm ?_
       refine sO 3 (some 56) (tb 11 95) (fun K hK => ?_)
       refine gO Tryz.func29 #[.int .i64 G.cols] ?_
       with_reducible refine (rNewF_any (G.cols : Int) lz HNW.out _).mono ?_
       rintro e w6 ⟨A6, c6, rfl, hc6, hF6, hb⟩
       refine ⟨_, rfl, ?_⟩
       have H6 := aS (And.intro (below_step H5.out hb) (And.intro hc6 hF6))
       clear hb hc6 hF6
       refine hK.out _ _ ⟨(pw_cell_below H6.out.1 HY.out.1), (pw_cell_below H6.out.1 HY.out.2.1), (pw_cell_below H6.out.1 HY.out.2.2.1), (pw_cell_below H6.out.1 HY.out.2.2.2.1), (pw_cell_below H6.out.1 HY.out.2.2.2.2.1), (pw_cell_below H6.out.1 HY.out.2.2.2.2.2)⟩ (fun hHeld => ?_)
       clear hK K
       refine nm ?_
       refine sO 5 (some 58) (tb 11 127) (fun K hK => ?_)
       refine gO Tryz.func19 #[gV (.slice (some ad) N c) G] ?_
       with_reducible refine (rCols_any ((HR.out.below HBW.out).below H6.out.1) HK.out).mono ?_
       rintro e w7 ⟨rfl, hb⟩
       refine ⟨_, rfl, ?_⟩
       have H7 := aS (And.intro (below_step H6.out.1 hb) (And.intro H6.out.2.1 (Kd.F_below H6.out.2.2 hb)))
       clear hb
       refine hK.out _ _ ⟨(pw_cell_below H7.out.1 HY.out.1), (pw_cell_below H7.out.1 HY.out.2.1), (pw_cell_below H7.out.1 HY.out.2.2.1), (pw_cell_below H7.out.1 HY.out.2.2.2.1), (pw_cell_below H7.out.1 HY.out.2.2.2.2.1), (pw_cell_below H7.out.1 HY.out.2.2.2.2.2)⟩ (fun hHeld => ?_)
       clear hK K
       refine nm ?_
       refine sO 7 (some 60) (tb 11 255) (fun K hK => ?_)
       refine gO Tryz.func72 #[.slice A6 lz.length c6, .int .i64 0, .int .i64 G.cols, penV p0 p1 p2] ?_
       with_reducible refine (rEraseK_any lz 0 (G.cols : Int) p0 p1 p2 HZL.out.1 A6 c6 _ _ H7.out.2.1 H7.out.2.2 lb HZL.out.2).mono ?_
       rintro e w8 ⟨A8, M8, c8, rfl, hK8, hb⟩
       refine ⟨_, rfl, ?_⟩
       have H8 := aS (And.intro (below_step H7.out.1 hb) (Kd.FK_mono hK8 (ok' := fun k => B0 ≤ k) (fun k hk => Nat.le_trans (Nat.le_trans HSZ.out.2 H7.out.1.size) hk)))
       have HB8 := aS (And.intro (Kd.N_bound HB.out.2) (show ∀ k, u8.ownBlock = some k → k < w7.heap.size from fun k hk => Nat.lt_of_lt_of_le (Kd.N_lt HB.out.2 k hk) H7.out.1.size))
       have HK8 := aS (Kd.FK_bound hK8)
       clear hb hK8
       refine hK.out _ _ ⟨(pw_cell_below H8.out.1 HY.out.1), (pw_cell_below H8.out.1 HY.out.2.1), (pw_cell_below H8.out.1 HY.out.2.2.1), (pw_cell_below H8.out.1 HY.out.2.2.2.1), (pw_cell_below H8.out.1 HY.out.2.2.2.2.1), (pw_cell_below H8.out.1 HY.out.2.2.2.2.2)⟩ (fun hHeld => ?_)
       clear hK K
       refine nm ?_
       refine sO 8 (some 61) (tb 11 511) (fun K hK => ?_)
       refine value_ (w1 := ?_) (v := ?_) (by rfl) rfl ?_ ?_
       rotate_left 2
       ·go_simp
        constructor
        ·rfl
        ·rfl
       refine hK.out _ _ ⟨(pw_cell_below (below_alloc H8.out.1 _) HY.out.1), (pw_cell_below (below_alloc H8.out.1 _) HY.out.2.1), (pw_cell_below (below_alloc H8.out.1 _) HY.out.2.2.1), (pw_cell_below (below_alloc H8.out.1 _) HY.out.2.2.2.1), (pw_cell_below (below_alloc H8.out.1 _) HY.out.2.2.2.2.1), (pw_cell_below (below_alloc H8.out.1 _) HY.out.2.2.2.2.2)⟩ (fun hHeld => ?_)
       clear hK K
       refine nm ?_
       refine last_ (i := 9) (N := some 62) (tb 11 1023) rfl rfl (by kernel_rfl) (by decide) (fun K hK => ?_)
       refine Kd.N_append_step kRL (w0 := w4) B0 (by rfl) (.tmp 53) (.tmp 61) 30 72 (.slice none 0 0) 24 (by rfl) Tryz.underlying30 infoRL rfl (by decide) (by omega) u8 (toL (RL.take i)) (lb.map toR) [.slice A8 M8 c8] (fun k => (ok k ∧ k < w.heap.size) ∨ B0 ≤ k) (fun k => w7.heap.size ≤ k ∧ k < w8.heap.size) (by rfl) (by rfl) HK8.out ?hokp ?hfresh (Kd.N_below HB.out.2 H8.out.1) ((show Below B0 w4 wr by rw [← HB0.out]; exact HB.out.1).trans (H8.out.1.mono HSZ.out.2)) (Nat.le_trans HSZ.out.2 H8.out.1.size) ?hlen ?_
       case hokp => intro k hk; exact ⟨.inr (Nat.le_trans (Nat.le_trans HSZ.out.2 H7.out.1.size) hk.1), fun e => by have := HB8.out.2 k e.symm; omega⟩
       case hfresh => intro k hk; exact .inr (Nat.le_trans (Nat.le_trans HSZ.out.2 H8.out.1.size) hk)
       case hlen => have := HLN.out; omega
       intro v9 w9 ho hb hg9 hat
       rw [← toL_more HGT.out] at ho
       rw [← HB0.out] at hb
       have H9 := aS (And.intro hb ho)
       clear ho hb hg9 hat
       refine hK.out _ _ ?_
       clear hK K
       refine nm ?_
       refine tP 10 (some 8) (tb 11 2047) ?_
       refine done_ (by kernel_rfl) ?_
       all_goals go_wp2
       all_goals go_roundg (N - (i + 1) + 1)
       all_goals first | (case measure => have := HK2.out; omega) | (case rel => exact ⟨i + 1, by go_num, ⟨rfl, by omega⟩, H9⟩)
    ·have hT : decide (i < N) = false := decide_eq_false hi
     obtain rfl : N = i := by have := HK2.out; omega
     clear hi
     obtain ⟨y0, y1, y2⟩ := gcells (blk_below HBX.out.1 HB.out.1)
     obtain ⟨A9, c9, h9⟩ := Kd.N_slice HB.out.2
     obtain ⟨N9, hN9⟩ : ∃ N9, (toL (RL.take N)).length = N9 := ⟨_, rfl⟩
     rw [hN9] at h9
     subst h9
     have Q9 := aS (And.intro (Qw4.out.below HB.out.1) (RD.ofN HB.out.2))
     clear hN9
     go_wp2_with (first | ((with_reducible refine gate_store (t := 32) (p := 6) rfl ?_); go_must (refine step_whole (.tmp 6) (.tmp 68) rfl rfl rfl rfl rfl (Q9.out.1.bx (g8, gZ) (by simp)).1 rfl (by kernel_rfl) (by simp [Value.oneCell']; done) ?_); intro w9 hx_ hg_; have Qw9 := aS (And.intro (QW.store (l1 := []) (l2 := [(g9, penR4 p0 p1 p2), (g4, gB (.slice (some ad) N c) G)]) (o' := gB (.slice A9 N9 c9) G) Q9.out.1 hx_ hg_) hg_); clear hx_ hg_))
     refine bodyPost_ret (results_cell_row rfl _ _ g8 32 _ (0, 0) _ rfl (Qw9.out.1.bx (g8, gB (.slice A9 N9 c9) G) (by simp)).1 Tryz.underlying32 rfl (by kernel_rfl)) rfl ?_
     exact ⟨_, rfl, RD.fin (W5 := w4) (by have h := Q9.out.2; rw [List.take_of_length_le (by rw [HRL.out.2]; exact Nat.le_refl _)] at h; rw [HB0.out]; exact h) Qw9.out.2 (Qw4.out.bx (g8, gZ) (by simp)).2 (blk_lt (Qw4.out.bx (g8, gZ) (by simp)).1), Qw9.out.1.hb⟩
  ·subst hs
   have hT1 : decide (s > (N : Int)) = false := decide_eq_false h1
   have hT2 : decide ((N : Int) < s) = false := decide_eq_false h1
   have hT3 : decide (s < -(N : Int)) = false := decide_eq_false h2
   clear h1 h2
   go_enter Tryz.func41, Tryz.ntmps41
   go_wp2_with (first | (refine bx 3 #[.slice (some ad) N c, .int .i64 G.row, .int .i64 G.col] 32 ?_; intro g4 hg_ w1 hx_ hb_; go_must (have Qw1 := aS (QW.box (o := .cells #[.slice (some ad) N c, .int .i64 G.row, .int .i64 G.col] 32 (0, 0)) (QW.new w) hx_ hg_ hb_)); clear hg_ hx_ hb_) | (refine bx 5 #[.int .u8 p0, .int .u8 p1, .int .u8 p2] 50 ?_; intro g9 hg_ w2 hx_ hb_; go_must (have Qw2 := aS (QW.box (o := .cells #[.int .u8 p0, .int .u8 p1, .int .u8 p2] 50 (0, 0)) Qw1.out hx_ hg_ hb_)); clear hg_ hx_ hb_) | (refine bx 6 #[.slice none 0 0, .int .i64 0, .int .i64 0] 32 ?_; intro g8 hg_ w3 hx_ hb_; go_must (have Qw3 := aS (QW.box (o := .cells #[.slice none 0 0, .int .i64 0, .int .i64 0] 32 (0, 0)) Qw2.out hx_ hg_ hb_)); clear hg_ hx_ hb_; obtain ⟨g40, g41, g42⟩ := gcells (Qw3.out.bx (g4, gB (.slice (some ad) N c) G) (by simp)).1; obtain ⟨p00, p01, p02⟩ := pcells (Qw3.out.bx (g9, penR4 p0 p1 p2) (by simp)).1) | (go_at_call 71; go_must (refine (prolepsisref04_Right.calls p0 p1 p2 _ _ HPR.out).mono ?_); rintro e w4 ⟨rfl, hb_⟩; have Qw4 := aS (Qw3.out.below hb_); clear hb_; obtain ⟨g40, g41, g42⟩ := gcells (Qw4.out.bx (g4, gB (.slice (some ad) N c) G) (by simp)).1; obtain ⟨p00, p01, p02⟩ := pcells (Qw4.out.bx (g9, penR4 p0 p1 p2) (by simp)).1))
   have HBX := aS (And.intro (Qw4.out.bx (g4, gB (.slice (some ad) N c) G) (by simp)).1 (And.intro (Qw4.out.bx (g9, penR4 p0 p1 p2) (by simp)).1 Qw4.out.hb))
   obtain ⟨B0, hB0⟩ : ∃ B0, w4.heap.size = B0 := ⟨_, rfl⟩
   have HB0 := aS hB0
   clear hB0 hwn hT1 hT2 hT3 HGS
   go_loopg [8, 9] (N + 1) (fun kq v8 v9 w' => ∃ (i : Nat), v9 = .int .i64 i ∧ Aside0 (kq = N - i + 1 ∧ i ≤ N) ∧ Aside0 (Below w4.heap.size w4 w' ∧ Kd.N kRL 72 w' B0 (fun k => (ok k ∧ k < w.heap.size) ∨ B0 ≤ k) v8 (toL (RL.take i))))
   case atStart => exact ⟨0, by go_num, ⟨by omega, by omega⟩, ⟨Below.refl _ _, Kd.N_nil _ _ _ _ _⟩⟩
   case round =>
    obtain ⟨i, rfl, HK2, HB⟩ := hrel
    by_cases hi : i < N
    ·have hT : decide (i < N) = true := decide_eq_true (by omega)
     have hiN := HSB.out
     have hw1 : wrap64 ((i : Int) + 1) = ((i + 1 : Nat) : Int) := by rw [w64 (by omega) (by omega)]; omega
     obtain ⟨x, hx⟩ : ∃ x, (i : Int) + s = x := ⟨_, rfl⟩
     have hwx : wrap64 ((i : Int) + s) = x := by rw [w64 (by omega) (by omega)]; exact hx
     have hgt := roll_get (L := G.L) (s := s) lb (by rw [← hiN.2.1]; omega) (r := i) (by omega)
     rw [HRL.out.1, hx] at hgt
     have HLN := aS (show (toL (RL.take i)).length ≤ 512 by rw [toL_len, List.length_take]; omega)
     have HBW := aS (below_then HBX.out.2.2 HBX.out.2.2.size HB.out.1)
     have HSZ := aS (show w.heap.size ≤ B0 ∧ B0 ≤ wr.heap.size from ⟨by rw [← HB0.out]; exact HBX.out.2.2.size, by rw [← HB0.out]; exact HB.out.1.size⟩)
     obtain ⟨y0, y1, y2⟩ := gcells (blk_below HBX.out.1 HB.out.1)
     by_cases hin : 0 ≤ x ∧ x < (G.L.length : Int)
     ·rw [if_pos hin] at hgt
      obtain ⟨j, rfl⟩ : ∃ j : Nat, x = (j : Int) := ⟨x.toNat, by omega⟩
      have hjN : j < N := by omega
      rw [Int.toNat_natCast] at hgt
      obtain ⟨l, hl⟩ : ∃ l, G.L[j]? = some l := ⟨_, List.getElem?_eq_getElem (by omega)⟩
      rw [hl] at hgt
      have HGT := aS hgt
      obtain ⟨A1, c1, hcl, hFK⟩ := HR.out.rowK hl
      have r4 := pw_cell_below HBW.out hcl
      have HFK := aS (Kd.FK_below hFK HBW.out)
      have hT2 : decide (j < N) = true := decide_eq_true hjN
      clear hgt hl hcl hFK hin hx hiN
      go_wp2_with (first | ((with_reducible refine gate_builtin (b := .append) (xs := #[.tmp 43, .tmp 51]) rfl ?_); go_must (at_builtin); go_must (refine Kd.N_append kRL (w0 := w4) B0 rfl (.tmp 43) (.tmp 51) 30 72 (.slice none 0 0) 24 rfl Tryz.underlying30 infoRL rfl (by decide) (by omega) u8 (toL (RL.take i)) (l.map toR) [.slice A1 l.length c1] (fun k => (ok k ∧ k < w.heap.size) ∨ B0 ≤ k) (fun k => ok k ∧ k < w.heap.size) rfl rfl HFK.out ?hokp ?hfresh HB.out.2 (show Below B0 w4 wr by rw [← HB0.out]; exact HB.out.1) HSZ.out.2 ?hlen ?_); go_must (case hokp => intro k hk; exact ⟨.inl hk, fun e => by have h1 := Kd.N_base HB.out.2 k e.symm; have h2 := HSZ.out.1; omega⟩); go_must (case hfresh => intro k hk; exact .inr (Nat.le_trans HSZ.out.2 hk)); go_must (case hlen => have := HLN.out; omega); intro v8 w8 ho hb hg8 hat; rw [← toL_more HGT.out] at ho; rw [← HB0.out] at hb; have H8 := aS (And.intro hb ho); clear ho hb hg8 hat))
      all_goals go_roundg (N - (i + 1) + 1)
      all_goals first | (case measure => have := HK2.out; omega) | (case rel => exact ⟨i + 1, by go_num, ⟨rfl, by omega⟩, H8⟩)
     ·rw [if_neg hin] at hgt
      have HGT := aS hgt
      obtain ⟨z0, z1, z2⟩ := pcells (blk_below HBX.out.2.1 HB.out.1)
      have HY := aS (And.intro y0 (And.intro y1 (And.intro y2 (And.intro z0 (And.intro z1 z2)))))
      by_cases hx0 : 0 ≤ x
      ·have hT2 : decide (0 ≤ x) = true := decide_eq_true hx0
       have hT3 : decide (x < (N : Int)) = false := decide_eq_false (by omega)
       clear hgt hin hx hiN hx0
       go_wp2
       refine start_ (n := 11) (S := fun w' => w'.cell? ⟨g4, 0, none⟩ = some (.slice (some ad) N c) ∧ w'.cell? ⟨g4, 1, none⟩ = some (.int .i64 G.row) ∧ w'.cell? ⟨g4, 2, none⟩ = some (.int .i64 G.col) ∧ w'.cell? ⟨g9, 0, none⟩ = some (.int .u8 p0) ∧ w'.cell? ⟨g9, 1, none⟩ = some (.int .u8 p1) ∧ w'.cell? ⟨g9, 2, none⟩ = some (.int .u8 p2)) (ds := [9, 10]) (tb 11 0) (by kernel_rfl) rfl rfl ⟨y0, y1, y2, z0, z1, z2⟩ (fun hHeld => ?_)
       refine tP 0 (some 53) (tb 11 1) ?_
       refine tK 1 (some 54) (tb 11 3) ?_
       refine tK 4 (some 57) (tb 11 19) ?_
       refine tK 6 (some 59) (tb 11 83) ?_
       refine sO 2 (some 55) (tb 11 87) (fun K hK => ?_)
       refine gO Tryz.func19 #[gV (.slice (some ad) N c) G] ?_
       with_reducible refine (rCols_any ((HR.out.below HBW.out).below bE) HK.out).mono ?_
       rintro e w5 ⟨rfl, hb⟩
       refine ⟨_, rfl, ?_⟩
       have H5 := aS (show Below wr.heap.size wr w5 from below_step bE hb)
       clear hb
       refine hK.out _ _ ⟨(pw_cell_below H5.out HY.out.1), (pw_cell_below H5.out HY.out.2.1), (pw_cell_below H5.out HY.out.2.2.1), (pw_cell_below H5.out HY.out.2.2.2.1), (pw_cell_below H5.out HY.out.2.2.2.2.1), (pw_cell_below H5.out HY.out.2.2.2.2.2)⟩ (fun hHeld => ?_)
       clear hK K
       refine nm ?_
       refine sO 3 (some 56) (tb 11 95) (fun K hK => ?_)
       refine gO Tryz.func29 #[.int .i64 G.cols] ?_
       with_reducible refine (rNewF_any (G.cols : Int) lz HNW.out _).mono ?_
       rintro e w6 ⟨A6, c6, rfl, hc6, hF6, hb⟩
       refine ⟨_, rfl, ?_⟩
       have H6 := aS (And.intro (below_step H5.out hb) (And.intro hc6 hF6))
       clear hb hc6 hF6
       refine hK.out _ _ ⟨(pw_cell_below H6.out.1 HY.out.1), (pw_cell_below H6.out.1 HY.out.2.1), (pw_cell_below H6.out.1 HY.out.2.2.1), (pw_cell_below H6.out.1 HY.out.2.2.2.1), (pw_cell_below H6.out.1 HY.out.2.2.2.2.1), (pw_cell_below H6.out.1 HY.out.2.2.2.2.2)⟩ (fun hHeld => ?_)
       clear hK K
       refine nm ?_
       refine sO 5 (some 58) (tb 11 127) (fun K hK => ?_)
       refine gO Tryz.func19 #[gV (.slice (some ad) N c) G] ?_
       with_reducible refine (rCols_any ((HR.out.below HBW.out).below H6.out.1) HK.out).mono ?_
       rintro e w7 ⟨rfl, hb⟩
       refine ⟨_, rfl, ?_⟩
       have H7 := aS (And.intro (below_step H6.out.1 hb) (And.intro H6.out.2.1 (Kd.F_below H6.out.2.2 hb)))
       clear hb
       refine hK.out _ _ ⟨(pw_cell_below H7.out.1 HY.out.1), (pw_cell_below H7.out.1 HY.out.2.1), (pw_cell_below H7.out.1 HY.out.2.2.1), (pw_cell_below H7.out.1 HY.out.2.2.2.1), (pw_cell_below H7.out.1 HY.out.2.2.2.2.1), (pw_cell_below H7.out.1 HY.out.2.2.2.2.2)⟩ (fun hHeld => ?_)
       clear hK K
       refine nm ?_
       refine sO 7 (some 60) (tb 11 255) (fun K hK => ?_)
       refine gO Tryz.func72 #[.slice A6 lz.length c6, .int .i64 0, .int .i64 G.cols, penV p0 p1 p2] ?_
       with_reducible refine (rEraseK_any lz 0 (G.cols : Int) p0 p1 p2 HZL.out.1 A6 c6 _ _ H7.out.2.1 H7.out.2.2 lb HZL.out.2).mono ?_
       rintro e w8 ⟨A8, M8, c8, rfl, hK8, hb⟩
       refine ⟨_, rfl, ?_⟩
       have H8 := aS (And.intro (below_step H7.out.1 hb) (Kd.FK_mono hK8 (ok' := fun k => B0 ≤ k) (fun k hk => Nat.le_trans (Nat.le_trans HSZ.out.2 H7.out.1.size) hk)))
       have HB8 := aS (And.intro (Kd.N_bound HB.out.2) (show ∀ k, u8.ownBlock = some k → k < w7.heap.size from fun k hk => Nat.lt_of_lt_of_le (Kd.N_lt HB.out.2 k hk) H7.out.1.size))
       have HK8 := aS (Kd.FK_bound hK8)
       clear hb hK8
       refine hK.out _ _ ⟨(pw_cell_below H8.out.1 HY.out.1), (pw_cell_below H8.out.1 HY.out.2.1), (pw_cell_below H8.out.1 HY.out.2.2.1), (pw_cell_below H8.out.1 HY.out.2.2.2.1), (pw_cell_below H8.out.1 HY.out.2.2.2.2.1), (pw_cell_below H8.out.1 HY.out.2.2.2.2.2)⟩ (fun hHeld => ?_)
       clear hK K
       refine nm ?_
       refine sO 8 (some 61) (tb 11 511) (fun K hK => ?_)
       refine value_ (w1 := ?_) (v := ?_) (by rfl) rfl ?_ ?_
       rotate_left 2
       ·go_simp
        constructor
        ·rfl
        ·rfl
       refine hK.out _ _ ⟨(pw_cell_below (below_alloc H8.out.1 _) HY.out.1), (pw_cell_below (below_alloc H8.out.1 _) HY.out.2.1), (pw_cell_below (below_alloc H8.out.1 _) HY.out.2.2.1), (pw_cell_below (below_alloc H8.out.1 _) HY.out.2.2.2.1), (pw_cell_below (below_alloc H8.out.1 _) HY.out.2.2.2.2.1), (pw_cell_below (below_alloc H8.out.1 _) HY.out.2.2.2.2.2)⟩ (fun hHeld => ?_)
       clear hK K
       refine nm ?_
       refine last_ (i := 9) (N := some 62) (tb 11 1023) rfl rfl (by kernel_rfl) (by decide) (fun K hK => ?_)
       refine Kd.N_append_step kRL (w0 := w4) B0 (by rfl) (.tmp 53) (.tmp 61) 30 72 (.slice none 0 0) 24 (by rfl) Tryz.underlying30 infoRL rfl (by decide) (by omega) u8 (toL (RL.take i)) (lb.map toR) [.slice A8 M8 c8] (fun k => (ok k ∧ k < w.heap.size) ∨ B0 ≤ k) (fun k => w7.heap.size ≤ k ∧ k < w8.heap.size) (by rfl) (by rfl) HK8.out ?hokp ?hfresh (Kd.N_below HB.out.2 H8.out.1) ((show Below B0 w4 wr by rw [← HB0.out]; exact HB.out.1).trans (H8.out.1.mono HSZ.out.2)) (Nat.le_trans HSZ.out.2 H8.out.1.size) ?hlen ?_
       case hokp => intro k hk; exact ⟨.inr (Nat.le_trans (Nat.le_trans HSZ.out.2 H7.out.1.size) hk.1), fun e => by have := HB8.out.2 k e.symm; omega⟩
       case hfresh => intro k hk; exact .inr (Nat.le_trans (Nat.le_trans HSZ.out.2 H8.out.1.size) hk)
       case hlen => have := HLN.out; omega
       intro v9 w9 ho hb hg9 hat
       rw [← toL_more HGT.out] at ho
       rw [← HB0.out] at hb
       have H9 := aS (And.intro hb ho)
       clear ho hb hg9 hat
       refine hK.out _ _ ?_
       clear hK K
       refine nm ?_
       refine tP 10 (some 8) (tb 11 2047) ?_
       refine done_ (by kernel_rfl) ?_
       all_goals go_wp2
       all_goals go_roundg (N - (i + 1) + 1)
       all_goals first | (case measure => have := HK2.out; omega) | (case rel => exact ⟨i + 1, by go_num, ⟨rfl, by omega⟩, H9⟩)
      ·have hT2 : decide (0 ≤ x) = false := decide_eq_false hx0
       clear hgt hin hx hiN hx0
       go_wp2
       refine start_ (n := 11) (S := fun w' => w'.cell? ⟨g4, 0, none⟩ = some (.slice (some ad) N c) ∧ w'.cell? ⟨g4, 1, none⟩ = some (.int .i64 G.row) ∧ w'.cell? ⟨g4, 2, none⟩ = some (.int .i64 G.col) ∧ w'.cell? ⟨g9, 0, none⟩ = some (.int .u8 p0) ∧ w'.cell? ⟨g9, 1, none⟩ = some (.int .u8 p1) ∧ w'.cell? ⟨g9, 2, none⟩ = some (.int .u8 p2)) (ds := [9, 10]) (tb 11 0) (by kernel_rfl) rfl rfl ⟨y0, y1, y2, z0, z1, z2⟩ (fun hHeld => ?_)
       refine tP 0 (some 53) (tb 11 1) ?_
       refine tK 1 (some 54) (tb 11 3) ?_
       refine tK 4 (some 57) (tb 11 19) ?_
       refine tK 6 (some 59) (tb 11 83) ?_
       refine sO 2 (some 55) (tb 11 87) (fun K hK => ?_)
       refine gO Tryz.func19 #[gV (.slice (some ad) N c) G] ?_
       with_reducible refine (rCols_any ((HR.out.below HBW.out).below bE) HK.out).mono ?_
       rintro e w5 ⟨rfl, hb⟩
       refine ⟨_, rfl, ?_⟩
       have H5 := aS (show Below wr.heap.size wr w5 from below_step bE hb)
       clear hb
       refine hK.out _ _ ⟨(pw_cell_below H5.out HY.out.1), (pw_cell_below H5.out HY.out.2.1), (pw_cell_below H5.out HY.out.2.2.1), (pw_cell_below H5.out HY.out.2.2.2.1), (pw_cell_below H5.out HY.out.2.2.2.2.1), (pw_cell_below H5.out HY.out.2.2.2.2.2)⟩ (fun hHeld => ?_)
       clear hK K
       refine nm ?_
       refine sO 3 (some 56) (tb 11 95) (fun K hK => ?_)
       refine gO Tryz.func29 #[.int .i64 G.cols] ?_
       with_reducible refine (rNewF_any (G.cols : Int) lz HNW.out _).mono ?_
       rintro e w6 ⟨A6, c6, rfl, hc6, hF6, hb⟩
       refine ⟨_, rfl, ?_⟩
       have H6 := aS (And.intro (below_step H5.out hb) (And.intro hc6 hF6))
       clear hb hc6 hF6
       refine hK.out _ _ ⟨(pw_cell_below H6.out.1 HY.out.1), (pw_cell_below H6.out.1 HY.out.2.1), (pw_cell_below H6.out.1 HY.out.2.2.1), (pw_cell_below H6.out.1 HY.out.2.2.2.1), (pw_cell_below H6.out.1 HY.out.2.2.2.2.1), (pw_cell_below H6.out.1 HY.out.2.2.2.2.2)⟩ (fun hHeld => ?_)
       clear hK K
       refine nm ?_
       refine sO 5 (some 58) (tb 11 127) (fun K hK => ?_)
       refine gO Tryz.func19 #[gV (.slice (some ad) N c) G] ?_
       with_reducible refine (rCols_any ((HR.out.below HBW.out).below H6.out.1) HK.out).mono ?_
       rintro e w7 ⟨rfl, hb⟩
       refine ⟨_, rfl, ?_⟩
       have H7 := aS (And.intro (below_step H6.out.1 hb) (And.intro H6.out.2.1 (Kd.F_below H6.out.2.2 hb)))
       clear hb
       refine hK.out _ _ ⟨(pw_cell_below H7.out.1 HY.out.1), (pw_cell_below H7.out.1 HY.out.2.1), (pw_cell_below H7.out.1 HY.out.2.2.1), (pw_cell_below H7.out.1 HY.out.2.2.2.1), (pw_cell_below H7.out.1 HY.out.2.2.2.2.1), (pw_cell_below H7.out.1 HY.out.2.2.2.2.2)⟩ (fun hHeld => ?_)
       clear hK K
       refine nm ?_
       refine sO 7 (some 60) (tb 11 255) (fun K hK => ?_)
       refine gO Tryz.func72 #[.slice A6 lz.length c6, .int .i64 0, .int .i64 G.cols, penV p0 p1 p2] ?_
       with_reducible refine (rEraseK_any lz 0 (G.cols : Int) p0 p1 p2 HZL.out.1 A6 c6 _ _ H7.out.2.1 H7.out.2.2 lb HZL.out.2).mono ?_
       rintro e w8 ⟨A8, M8, c8, rfl, hK8, hb⟩
       refine ⟨_, rfl, ?_⟩
       have H8 := aS (And.intro (below_step H7.out.1 hb) (Kd.FK_mono hK8 (ok' := fun k => B0 ≤ k) (fun k hk => Nat.le_trans (Nat.le_trans HSZ.out.2 H7.out.1.size) hk)))
       have HB8 := aS (And.intro (Kd.N_bound HB.out.2) (show ∀ k, u8.ownBlock = some k → k < w7.heap.size from fun k hk => Nat.lt_of_lt_of_le (Kd.N_lt HB.out.2 k hk) H7.out.1.size))
       have HK8 := aS (Kd.FK_bound hK8)
       clear hb hK8
       refine hK.out _ _ ⟨(pw_cell_below H8.out.1 HY.out.1), (pw_cell_below H8.out.1 HY.out.2.1), (pw_cell_below H8.out.1 HY.out.2.2.1), (pw_cell_below H8.out.1 HY.out.2.2.2.1), (pw_cell_below H8.out.1 HY.out.2.2.2.2.1), (pw_cell_below H8.out.1 HY.out.2.2.2.2.2)⟩ (fun hHeld => ?_)
       clear hK K
       refine nm ?_
       refine sO 8 (some 61) (tb 11 511) (fun K hK => ?_)
       refine value_ (w1 := ?_) (v := ?_) (by rfl) rfl ?_ ?_
       rotate_left 2
       ·go_simp
        constructor
        ·rfl
        ·rfl
       refine hK.out _ _ ⟨(pw_cell_below (below_alloc H8.out.1 _) HY.out.1), (pw_cell_below (below_alloc H8.out.1 _) HY.out.2.1), (pw_cell_below (below_alloc H8.out.1 _) HY.out.2.2.1), (pw_cell_below (below_alloc H8.out.1 _) HY.out.2.2.2.1), (pw_cell_below (below_alloc H8.out.1 _) HY.out.2.2.2.2.1), (pw_cell_below (below_alloc H8.out.1 _) HY.out.2.2.2.2.2)⟩ (fun hHeld => ?_)
       clear hK K
       refine nm ?_
       refine last_ (i := 9) (N := some 62) (tb 11 1023) rfl rfl (by kernel_rfl) (by decide) (fun K hK => ?_)
       refine Kd.N_append_step kRL (w0 := w4) B0 (by rfl) (.tmp 53) (.tmp 61) 30 72 (.slice none 0 0) 24 (by rfl) Tryz.underlying30 infoRL rfl (by decide) (by omega) u8 (toL (RL.take i)) (lb.map toR) [.slice A8 M8 c8] (fun k => (ok k ∧ k < w.heap.size) ∨ B0 ≤ k) (fun k => w7.heap.size ≤ k ∧ k < w8.heap.size) (by rfl) (by rfl) HK8.out ?hokp ?hfresh (Kd.N_below HB.out.2 H8.out.1) ((show Below B0 w4 wr by rw [← HB0.out]; exact HB.out.1).trans (H8.out.1.mono HSZ.out.2)) (Nat.le_trans HSZ.out.2 H8.out.1.size) ?hlen ?_
       case hokp => intro k hk; exact ⟨.inr (Nat.le_trans (Nat.le_trans HSZ.out.2 H7.out.1.size) hk.1), fun e => by have := HB8.out.2 k e.symm; omega⟩
       case hfresh => intro k hk; exact .inr (Nat.le_trans (Nat.le_trans HSZ.out.2 H8.out.1.size) hk)
       case hlen => have := HLN.out; omega
       intro v9 w9 ho hb hg9 hat
       rw [← toL_more HGT.out] at ho
       rw [← HB0.out] at hb
       have H9 := aS (And.intro hb ho)
       clear ho hb hg9 hat
       refine hK.out _ _ ?_
       clear hK K
       refine nm ?_
       refine tP 10 (some 8) (tb 11 2047) ?_
       refine done_ (by kernel_rfl) ?_
       all_goals go_wp2
       all_goals go_roundg (N - (i + 1) + 1)
       all_goals first | (case measure => have := HK2.out; omega) | (case rel => exact ⟨i + 1, by go_num, ⟨rfl, by omega⟩, H9⟩)
    ·have hT : decide (i < N) = false := decide_eq_false hi
     obtain rfl : N = i := by have := HK2.out; omega
     clear hi
     obtain ⟨y0, y1, y2⟩ := gcells (blk_below HBX.out.1 HB.out.1)
     obtain ⟨A9, c9, h9⟩ := Kd.N_slice HB.out.2
     obtain ⟨N9, hN9⟩ : ∃ N9, (toL (RL.take N)).length = N9 := ⟨_, rfl⟩
     rw [hN9] at h9
     subst h9
     have Q9 := aS (And.intro (Qw4.out.below HB.out.1) (RD.ofN HB.out.2))
     clear hN9
     go_wp2_with (first | ((with_reducible refine gate_store (t := 32) (p := 6) rfl ?_); go_must (refine step_whole (.tmp 6) (.tmp 68) rfl rfl rfl rfl rfl (Q9.out.1.bx (g8, gZ) (by simp)).1 rfl (by kernel_rfl) (by simp [Value.oneCell']; done) ?_); intro w9 hx_ hg_; have Qw9 := aS (And.intro (QW.store (l1 := []) (l2 := [(g9, penR4 p0 p1 p2), (g4, gB (.slice (some ad) N c) G)]) (o' := gB (.slice A9 N9 c9) G) Q9.out.1 hx_ hg_) hg_); clear hx_ hg_))
     refine bodyPost_ret (results_cell_row rfl _ _ g8 32 _ (0, 0) _ rfl (Qw9.out.1.bx (g8, gB (.slice A9 N9 c9) G) (by simp)).1 Tryz.underlying32 rfl (by kernel_rfl)) rfl ?_
     exact ⟨_, rfl, RD.fin (W5 := w4) (by have h := Q9.out.2; rw [List.take_of_length_le (by rw [HRL.out.2]; exact Nat.le_refl _)] at h; rw [HB0.out]; exact h) Qw9.out.2 (Qw4.out.bx (g8, gZ) (by simp)).2 (blk_lt (Qw4.out.bx (g8, gZ) (by simp)).1), Qw9.out.1.hb⟩
 ·have HPR := aS (show prolepsisref04_Right.f p0 p1 p2 = some false by rw [r4_ok, Bool.eq_false_iff.2 hp])
  have hres : gScroll G n p0 p1 p2 = G := by unfold gScroll; rw [if_neg hp]
  rw [hres]
  obtain ⟨_, _, _, -⟩ := RD.slice hR
  clear hR hk hres hp
  go_enter Tryz.func41, Tryz.ntmps41
  go_wp2_with (first | (refine bx 3 #[.slice A N c, .int .i64 G.row, .int .i64 G.col] 32 ?_; intro g4 hg_ w1 hx_ hb_; go_must (have Qw1 := aS (QW.box (o := .cells #[.slice A N c, .int .i64 G.row, .int .i64 G.col] 32 (0, 0)) (QW.new w) hx_ hg_ hb_)); clear hg_ hx_ hb_) | (refine bx 5 #[.int .u8 p0, .int .u8 p1, .int .u8 p2] 50 ?_; intro g9 hg_ w2 hx_ hb_; go_must (have Qw2 := aS (QW.box (o := .cells #[.int .u8 p0, .int .u8 p1, .int .u8 p2] 50 (0, 0)) Qw1.out hx_ hg_ hb_)); clear hg_ hx_ hb_) | (refine bx 6 #[.slice none 0 0, .int .i64 0, .int .i64 0] 32 ?_; intro g8 hg_ w3 hx_ hb_; go_must (have Qw3 := aS (QW.box (o := .cells #[.slice none 0 0, .int .i64 0, .int .i64 0] 32 (0, 0)) Qw2.out hx_ hg_ hb_)); clear hg_ hx_ hb_; obtain ⟨g40, g41, g42⟩ := gcells (Qw3.out.bx (g4, gB (.slice A N c) G) (by simp)).1; obtain ⟨p00, p01, p02⟩ := pcells (Qw3.out.bx (g9, penR4 p0 p1 p2) (by simp)).1) | (go_at_call 71; go_must (refine (prolepsisref04_Right.calls p0 p1 p2 _ _ HPR.out).mono ?_); rintro e w4 ⟨rfl, hb_⟩; have Qw4 := aS (Qw3.out.below hb_); clear hb_; obtain ⟨g40, g41, g42⟩ := gcells (Qw4.out.bx (g4, gB (.slice A N c) G) (by simp)).1; obtain ⟨p00, p01, p02⟩ := pcells (Qw4.out.bx (g9, penR4 p0 p1 p2) (by simp)).1) | ((with_reducible refine gate_store (t := 32) (p := 6) rfl ?_); go_must (refine step_whole (.tmp 6) (.tmp 13) rfl rfl rfl rfl rfl (Qw4.out.bx (g8, gZ) (by simp)).1 rfl (by kernel_rfl) (by simp [Value.oneCell']; done) ?_); intro w5 hx_ hg_; have Qw5 := aS (And.intro (QW.store (l1 := []) (l2 := [(g9, penR4 p0 p1 p2), (g4, gB (.slice A N c) G)]) (o' := gB (.slice A N c) G) Qw4.out hx_ hg_) hg_); clear hx_ hg_))
  refine bodyPost_ret (results_cell_row rfl _ _ g8 32 _ (0, 0) _ rfl (Qw5.out.1.bx (g8, gB (.slice A N c) G) (by simp)).1 Tryz.underlying32 rfl (by kernel_rfl)) rfl ?_
  exact ⟨_, rfl, RD.fin (W5 := w4) ((HR.out.below Qw4.out.hb).mono (fun k hk => .inl hk)) Qw5.out.2 (Qw4.out.bx (g8, gZ) (by simp)).2 (blk_lt (Qw4.out.bx (g8, gZ) (by simp)).1), Qw5.out.1.hb⟩
end Go.Proofs.YtblcmcdifgclcaaGreat.Grd
