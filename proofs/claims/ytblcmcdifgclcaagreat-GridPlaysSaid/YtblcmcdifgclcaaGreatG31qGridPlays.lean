/- GridPlays: what its proof leads to. No condition. -/
import Derived.Test.YtblcmcdifgclcaaGreatG6qGridPlays
import Derived.Test.YtblcmcdifgclcaaGreatG23qGridPlays
import Derived.Test.YtblcmcdifgclcaaGreatG24qGridPlays
import Derived.Test.YtblcmcdifgclcaaGreatG26qGridPlays
import Derived.Test.YtblcmcdifgclcaaGreatG27qGridPlays
import Derived.Test.YtblcmcdifgclcaaGreatG30qGridPlays
namespace Go.Proofs.YtblcmcdifgclcaaGreat.Grd
open Go.RowKit Go.Proofs.YtblcmcdifgclcaaGreat Go.Proofs.YtblcmcdifgclcaaGreat.PGridPlays Go.Proofs.YtblcmcdifgclcaaGreatW.PrintWords Go.Proofs.YtblcmcdifgclcaaGreatW.PrintLast Go.Proofs.YtblcmcdifgclcaaGreatW.PrintMore
set_option linter.unusedVariables false
set_option linter.unusedSimpArgs false
set_option maxRecDepth 100000
set_option maxHeartbeats 4000000
attribute [local go_sem] isSome_setCell max2_int min2_int max_two min_two
theorem cut_up (N cap i b : Nat) (A9 : Addr) (hin : i ≤ N) (hcap : N ≤ cap) (hA : (if N = i then (⟨b, 0, none⟩ : Addr) else ⟨b, i, none⟩) = A9) (W : World) :
 (Instr.slice 64 (.slice (some ⟨b, 0, none⟩) N cap) (some (.int .i64 i)) (some (.int .i64 N)) (some (.int .i64 N))).run Tryz.prog W = .ok (.slice (some A9) (N - i) (N - i)) W := by
 have hu : Tryz.prog.underlying 64 = some (.slice (Tryz.prog.elem 64)) := by kernel_rfl
 have he : Tryz.prog.elem 64 = 41 := by kernel_rfl
 obtain ⟨i0, hi, hzz⟩ := Option.map_eq_some_iff.1 infoLn
 simp only [Prod.mk.injEq] at hzz
 subst hA
 rw [run_slice_lhm W 64 (some ⟨b, 0, none⟩) N cap hu .i64 .i64 .i64 (i : Int) (N : Int) (N : Int) (by omega) (by omega) (Int.le_refl _) (by omega), he]
 simp only [sizeOf, typeInfo, hi, sliced, Result.andThen, Int.toNat_natCast, hzz.2.1]
 by_cases h : N = i
 ·subst h
  simp [Sem.run_pure, hi, hzz.2.1, sliced]
 ·simp [h, hi, hzz.2.1, sliced, Addr.add]
  omega
section
variable {O : Nat → Prop} {w W W1 : World} {g : Nat} {G : GV}
theorem GS.rolled (h : GS O w g G) (hb : Below w.heap.size w W1) {v1 : Value} {L' : List (List CS)} (hL : GL W1 (fun k => (O k ∧ k ≠ g) ∨ w.heap.size ≤ k) v1 L') (hok : ({ G with L := L' } : GV).ok) : Did O w (W1.setCell ⟨g, 2, none⟩ v1) g { G with L := L' } := by
 obtain ⟨v, hx, -⟩ := h.ex
 have hgl := h.lt
 have hx1 := blk_below hx hb
 have hs : (W1.setCell ⟨g, 2, none⟩ v1).heap.size = W1.heap.size := by simp [World.setCell]
 have hbd : ∀ k, ((O k ∧ k ≠ g) ∨ w.heap.size ≤ k) ∧ k < W1.heap.size → (O k ∨ (w.heap.size ≤ k ∧ k < W1.heap.size)) ∧ k ≠ g := fun k hk => ⟨hk.1.elim (fun h => .inl h.1) (fun h => .inr ⟨h, hk.2⟩), hk.1.elim (fun h => h.2) (fun h => by omega)⟩
 have hLb : GL W1 (fun k => ((O k ∧ k ≠ g) ∨ w.heap.size ≤ k) ∧ k < W1.heap.size) v1 L' := by
  obtain ⟨b, cap, rfl, hc, hb1, ⟨cs, hy⟩, hr⟩ := hL
  refine ⟨b, cap, rfl, hc, ⟨hb1, blk_lt hy⟩, ⟨cs, hy⟩, fun j l hj => ?_⟩
  obtain ⟨A, c, h1, h2, h3⟩ := hr j l hj
  exact ⟨A, c, h1, h2, Kd.F_mono (Kd.F_bound h3) (fun k hk => ⟨⟨hk.1.1, hk.2⟩, hk.1.2⟩)⟩
 refine ⟨fun k => O k ∨ (w.heap.size ≤ k ∧ k < W1.heap.size), ⟨.inl h.og, fun k hk => ?_, hok, v1, by simpa using blk_set hx1 2 v1, ?_⟩, fun k hk => hk.imp id (fun h => h.1), (Wr.of_below hb O).set (.inl h.og) _⟩
 ·rw [hs]; exact hk.elim (fun h' => Nat.lt_of_lt_of_le (h.ob k h') hb.size) (fun h' => h'.2)
 ·exact (hLb.mono hbd).step (fun k hk _ => Below.heap_setCell _ _ _ k hk.2)
structure SB (w0 W : World) (v : Value) (i : Nat) (lb : List CS) : Prop where
 hb : Below w0.heap.size w0 W
 rows : Kd.N kL tLn W w0.heap.size (fun k => w0.heap.size ≤ k) v (List.replicate i lb)
theorem Scroll_no (h : GS O w g G) (n p0 p1 p2 : Int) (hp : penR p0 p1 p2 = false) : Calls Tryz.prog 24 #[.pointer (some ⟨g, 0, none⟩), .int .i64 n, penV p0 p1 p2] w fun e w' => e = .returned (.tuple #[]) ∧ Below w.heap.size w w' := by
 have HP := aS (show pen_Right.f p0 p1 p2 = some false by rw [pR_ok, hp])
 clear hp h
 go_enter Tryz.func24, Tryz.ntmps24
 go_wp2_with (first | (go_at_call 59; refine (pen_Right.calls p0 p1 p2 _ _ HP.out).mono ?_; rintro e w1 ⟨rfl, hb⟩; have H1 := aS (below_then (below_alloc (Below.refl _ _) _) (show w.heap.size ≤ _ from below_size (below_alloc (Below.refl _ _) _)) hb); clear hb))
 (try simp only [Exit.inBlock, Exit.then])
 refine bodyPost_ret (results_none rfl _ _ _) rfl ?_
 exact ⟨rfl, H1.out⟩
theorem Scroll_any (h : GS O w g G) (n p0 p1 p2 : Int) (hnb : -9223372036854775808 ≤ n ∧ n ≤ 9223372036854775807) (hp : penR p0 p1 p2 = true) : Calls Tryz.prog 24 #[.pointer (some ⟨g, 0, none⟩), .int .i64 n, penV p0 p1 p2] w fun e w' => e = .returned (.tuple #[]) ∧ Did O w w' g (gScroll G n p0 p1 p2) := by
 have HG := aS (gScroll_ok h.ok n p0 p1 p2)
 have HP := aS (show pen_Right.f p0 p1 p2 = some true by rw [pR_ok, hp])
 have HPP := aS hp
 have HS := aS h
 obtain ⟨b, cap, hb, hbg, hcap, hx, hL, -⟩ := h.open_
 have HX := aS (And.intro hx hL)
 have hgl := h.lt
 have hr1 := h.ok.r1
 have hr2 := h.ok.r2
 have h2 := (blk_cell hx 2).trans (rfl : _ = some (Value.slice (some ⟨b, 0, none⟩) G.L.length cap))
 have h3 := (blk_cell hx 3).trans (rfl : _ = some (Value.int .i64 G.cols))
 have f2 := blk_frozen hx 2
 obtain ⟨N, hN⟩ : ∃ N, G.L.length = N := ⟨_, rfl⟩
 have HN := aS hN
 rw [hN] at h2 hr1 hr2 hcap
 obtain ⟨s, hs⟩ : ∃ s, gShift n N = s := ⟨_, rfl⟩
 have HSH := aS hs
 have hsb := gShift_in n N
 rw [hs] at hsb
 obtain ⟨x1, hx1⟩ : ∃ x1, (if n < -(N : Int) then -(N : Int) else n) = x1 := ⟨_, rfl⟩
 have hs2 : (if (N : Int) < x1 then (N : Int) else x1) = s := by rw [← hs, ← hx1]; unfold gShift mn mx; rfl
 have hwn : wrap64 (-(N : Int)) = -(N : Int) := w64 (by omega) (by omega)
 have hws : wrap64 (-s) = -s := w64 (by omega) (by omega)
 obtain ⟨k, hk⟩ : ∃ k : Nat, (if s < -s then -s else s) = (k : Int) := ⟨s.natAbs, by split <;> omega⟩
 have HK0 := aS (show (0 ≤ s ∧ s = (k : Int)) ∨ (s < 0 ∧ s = -(k : Int)) by split at hk <;> omega)
 have HBD := aS (And.intro hsb (And.intro hr1 hr2))
 clear hN hs hb hbg hx hL hp h hnb hsb
 go_enter Tryz.func24, Tryz.ntmps24
 go_wp2_with (first | (go_at_call 59; refine (pen_Right.calls p0 p1 p2 _ _ HP.out).mono ?_; rintro e w1 ⟨rfl, hb⟩; have H1 := aS hb; have h21 := (hb.cell (p := ⟨g, 2, none⟩) (Nat.lt_of_lt_of_le hgl (below_size (below_alloc (Below.refl _ _) _)))).trans ((Below.cell (below_alloc (Below.refl w.heap.size w) (penB p0 p1 p2)) (p := ⟨g, 2, none⟩) hgl).trans h2); clear hb))
 obtain ⟨w0, hw0⟩ : ∃ w0, w.alloc (penB p0 p1 p2) = w0 := ⟨_, rfl⟩
 obtain ⟨gp, hgp⟩ : ∃ gp, w.heap.size = gp := ⟨_, rfl⟩
 have HBX := aS (show w0.heap[gp]? = some (penB p0 p1 p2) by rw [← hw0, ← hgp]; exact blk_new _ _)
 have HW0 := aS (show Below w.heap.size w w0 by rw [← hw0]; exact below_alloc (Below.refl _ _) _)
 have HGP := aS hgp
 rw [hw0] at H1
 try rw [hgp]
 have HB0 := aS (show SB w0 w1 (.slice none 0 0) 0 (gBlank G.cols p0 p1 p2) from ⟨H1.out, Kd.N_nil _ _ _ _ _⟩)
 obtain ⟨lz, hlz⟩ : ∃ lz, List.replicate (lenC (G.cols : Int)) (blankP 0 0 0) = lz := ⟨_, rfl⟩
 have HNW := aS (show line_New.f 1000 (G.cols : Int) = some lz by rw [New_ok (G.cols : Int) 1000 (by omega), hlz])
 obtain ⟨lb, hlb⟩ : ∃ lb, gBlank G.cols p0 p1 p2 = lb := ⟨_, rfl⟩
 have HLB := aS hlb
 have hzl : lz.length ≤ 512 := by rw [← hlz, List.length_replicate]; exact (lenC_eq _).2
 have HER := aS (show line_Erase.f 2000 lz 0 (G.cols : Int) p0 p1 p2 = some lb by rw [Erase_ok lz 0 (G.cols : Int) p0 p1 p2 (by omega) 2000 (by omega), ← hlb, ← hlz]; rfl)
 rw [hlb] at HB0
 have h30 := (HW0.out.cell hgl).trans h3
 have HC3 := aS h30
 clear hgp hw0 hlz hlb hzl h30 h3 h2 f2 h21 hwn hx1 hs2 hk H1
 go_loopg [7, 30] (k + 1) (fun kq v7 v30 w' => ∃ (i : Nat), v30 = .int .i64 i ∧ Aside0 (kq = k - i + 1 ∧ i ≤ k) ∧ Aside0 (SB w0 w' v7 i lb))
 case atStart => exact ⟨0, by go_num, ⟨by omega, by omega⟩, HB0⟩
 case round =>
  obtain ⟨i, rfl, HK, HB⟩ := hrel
  by_cases hi : i < k
  ·have hT : decide (i < k) = true := decide_eq_true (by omega)
   have hw1 : wrap64 ((i : Int) + 1) = ((i + 1 : Nat) : Int) := by rw [w64 (by omega) (by have := HBD.out; have := HK0.out; omega)]; omega
   have hik : i < 512 := by have := HBD.out; have := HK0.out; omega
   have HIK := aS hik
   have c3 := pw_cell_below HB.out.hb HC3.out
   have q0 := pw_cell_below HB.out.hb ((blk_cell HBX.out 0).trans (rfl : _ = some (Value.int .u8 p0)))
   have q1 := pw_cell_below HB.out.hb ((blk_cell HBX.out 1).trans (rfl : _ = some (Value.int .u8 p1)))
   have q2 := pw_cell_below HB.out.hb ((blk_cell HBX.out 2).trans (rfl : _ = some (Value.int .u8 p2)))
   have HQ := aS (And.intro c3 (And.intro q0 (And.intro q1 q2)))
   clear hik
   go_wp2
   refine start_ (n := 15) (S := fun w' => w'.cell? ⟨g, 3, none⟩ = some (.int .i64 G.cols) ∧ w'.cell? ⟨gp, 0, none⟩ = some (.int .u8 p0) ∧ w'.cell? ⟨gp, 1, none⟩ = some (.int .u8 p1) ∧ w'.cell? ⟨gp, 2, none⟩ = some (.int .u8 p2)) (ds := [13]) (tb 15 0) (by kernel_rfl) rfl rfl ⟨c3, q0, q1, q2⟩ (fun hHeld => ?_)
   refine tP 0 (some 32) (tb 15 1) ?_
   refine tP 1 (some 33) (tb 15 3) ?_
   refine tP 2 (some 34) (tb 15 7) ?_
   refine tP 3 (some 35) (tb 15 15) ?_
   refine tP 6 (some 38) (tb 15 79) ?_
   refine tP 7 (some 39) (tb 15 207) ?_
   refine tP 8 (some 40) (tb 15 463) ?_
   refine tK 4 (some 36) (tb 15 479) ?_
   refine tK 9 (some 41) (tb 15 991) ?_
   refine tK 10 (some 42) (tb 15 2015) ?_
   refine sO 5 (some 37) (tb 15 2047) (fun K hK => ?_)
   refine gO Tryz.func21 #[.int .i64 G.cols] ?_
   with_reducible refine (line_New.calls 1000 (G.cols : Int) lz _ HNW.out).mono ?_
   rintro e w5 ⟨v5, rfl, hR, hb⟩
   refine ⟨_, rfl, ?_⟩
   obtain ⟨A5, c5, rfl, hc5, hC5⟩ := Kd.R_reads hR
   have H5 := aS (And.intro (show Below wr.heap.size wr w5 from below_step bE hb) (And.intro hc5 hC5))
   clear hR hb hc5 hC5
   refine hK.out _ _ ⟨(pw_cell_below H5.out.1 HQ.out.1), (pw_cell_below H5.out.1 HQ.out.2.1), (pw_cell_below H5.out.1 HQ.out.2.2.1), (pw_cell_below H5.out.1 HQ.out.2.2.2)⟩ (fun hHeld => ?_)
   clear hK K
   refine nm ?_
   refine sO 11 (some 43) (tb 15 4095) (fun K hK => ?_)
   refine gO Tryz.func60 #[.slice A5 lz.length c5, .int .i64 0, .int .i64 G.cols, .agg #[.int .u8 p0, .int .u8 p1, .int .u8 p2]] ?_
   with_reducible refine (line_Erase.calls 2000 A5 c5 lz 0 (G.cols : Int) p0 p1 p2 lb _ H5.out.2.2 H5.out.2.1 HER.out).mono ?_
   rintro e w6 ⟨v6, rfl, hR, hb⟩
   refine ⟨_, rfl, ?_⟩
   obtain ⟨A6, c6, rfl, hc6, -⟩ := Kd.R_reads hR
   have H6 := aS (And.intro (below_step H5.out.1 hb) (show Kd.FK kL w6 (fun k => wr.heap.size ≤ k) lb [.slice A6 lb.length c6] from Kd.FK_slice_mk hc6 (Kd.F_mono (Kd.R_F (Kd.R_bound hR)) (fun k hk => Nat.le_trans H5.out.1.size hk.2.1))))
   clear hR hb hc6
   refine hK.out _ _ ⟨(pw_cell_below H6.out.1 HQ.out.1), (pw_cell_below H6.out.1 HQ.out.2.1), (pw_cell_below H6.out.1 HQ.out.2.2.1), (pw_cell_below H6.out.1 HQ.out.2.2.2)⟩ (fun hHeld => ?_)
   clear hK K
   refine nm ?_
   refine sO 12 (some 44) (tb 15 8191) (fun K hK => ?_)
   refine value_ (w1 := ?_) (v := ?_) (by rfl) rfl ?_ ?_
   rotate_left 2
   ·go_simp
    constructor
    ·rfl
    ·rfl
   refine hK.out _ _ ⟨(pw_cell_below (below_alloc H6.out.1 _) HQ.out.1), (pw_cell_below (below_alloc H6.out.1 _) HQ.out.2.1), (pw_cell_below (below_alloc H6.out.1 _) HQ.out.2.2.1), (pw_cell_below (below_alloc H6.out.1 _) HQ.out.2.2.2)⟩ (fun hHeld => ?_)
   clear hK K
   refine nm ?_
   refine last_ (i := 13) (N := some 45) (tb 15 16383) rfl rfl (by kernel_rfl) (by decide) (fun K hK => ?_)
   refine Kd.N_append_step kL (w0 := w6) w0.heap.size (by rfl) (.tmp 32) (.tmp 44) 64 41 (.slice none 0 0) 24 (by rfl) Tryz.underlying64 infoLn rfl (by decide) (by omega) u7 (List.replicate i lb) lb [.slice A6 lb.length c6] (fun k => w0.heap.size ≤ k) (fun k => wr.heap.size ≤ k) (by rfl) (by rfl) (Kd.FK_below H6.out.2 bE) ?hokp ?hfresh (Kd.N_below HB.out.rows (below_step (Below.refl _ _) H6.out.1)) bE ?hsz ?hlen ?_
   case hokp => intro k hk; exact ⟨Nat.le_trans HB.out.hb.size hk, fun e => by have := Kd.N_lt HB.out.rows k e.symm; omega⟩
   case hfresh => intro k hk; exact Nat.le_trans (Nat.le_trans HB.out.hb.size H6.out.1.size) hk
   case hsz => exact Nat.le_trans HB.out.hb.size H6.out.1.size
   case hlen => have := HIK.out; rw [List.length_replicate]; omega
   intro v8 w8 ho hb hg8 hat
   have H8 := aS (show SB w0 w8 v8 (i + 1) lb from ⟨(below_then HB.out.hb HB.out.hb.size H6.out.1).grown hg8 (Nat.le_trans HB.out.hb.size H6.out.1.size) (fun k hk => HB.out.rows.1 k hk), by rw [List.replicate_succ']; exact ho⟩)
   clear ho hb hg8 hat
   refine hK.out _ _ ?_
   clear hK K
   refine nm ?_
   refine tP 14 (some 7) (tb 15 32767) ?_
   refine done_ (by kernel_rfl) ?_
   all_goals go_wp2
   all_goals go_roundg (k - (i + 1) + 1)
   all_goals first | (case measure => have := HK.out; omega) | (case rel => exact ⟨i + 1, by go_num, ⟨rfl, by omega⟩, H8⟩)
  ·have hT : decide (i < k) = false := decide_eq_false hi
   obtain rfl : i = k := by have := HK.out; omega
   clear hi
   have hbw := below_then HW0.out HW0.out.size HB.out.hb
   have HBW := aS hbw
   have hxr := blk_below HX.out.1 hbw
   have hLr := HX.out.2.step (W1 := wr) (fun k _ hlt => hbw.block k hlt)
   have HLR := aS (And.intro hxr hLr)
   have g2 := (blk_cell hxr 2).trans (rfl : _ = some (Value.slice (some ⟨b, 0, none⟩) G.L.length cap))
   rw [HN.out] at g2
   obtain ⟨A7, c7, h7⟩ := Kd.N_slice HB.out.rows
   rw [List.length_replicate] at h7
   subst h7
   have HR7 := aS HB.out.rows
   clear hbw hxr hLr
   rcases HK0.out with ⟨h0, hs⟩ | ⟨h0, hs⟩
   ·subst hs
    have hin : i ≤ N := by have := HBD.out; omega
    have hT2 : decide ((0 : Int) ≤ (i : Int)) = true := decide_eq_true h0
    obtain ⟨A9, hA9⟩ : ∃ A9, (if N = i then (⟨b, 0, none⟩ : Addr) else ⟨b, i, none⟩) = A9 := ⟨_, rfl⟩
    have hcut : ∀ W, (Instr.slice 64 (.slice (some ⟨b, 0, none⟩) N cap) (some (.int .i64 i)) (some (.int .i64 N)) (some (.int .i64 N))).run Tryz.prog W = .ok (.slice (some A9) (N - i) (N - i)) W := cut_up N cap i b A9 hin hcap hA9
    have HIN := aS (And.intro hin hA9)
    clear hA9 h0
    go_wp2
    refine start_ (n := 22) (S := fun w' => w'.cell? ⟨g, 2, none⟩ = some (.slice (some ⟨b, 0, none⟩) N cap)) (ds := [18, 21]) (tb 22 0) (by kernel_rfl) rfl rfl (g2) (fun hHeld => ?_)
    refine tP 0 (some 49) (tb 22 1) ?_
    refine tP 1 (some 50) (tb 22 3) ?_
    refine tP 2 (some 51) (tb 22 7) ?_
    refine tP 3 (some 52) (tb 22 15) ?_
    refine tP 5 (some 54) (tb 22 47) ?_
    refine tP 6 (some 55) (tb 22 111) ?_
    refine tP 7 (some 56) (tb 22 239) ?_
    refine tP 8 (some 57) (tb 22 495) ?_
    refine tP 11 (some 60) (tb 22 2543) ?_
    refine tP 12 (some 61) (tb 22 6639) ?_
    refine tP 13 (some 62) (tb 22 14831) ?_
    refine tP 17 (some 66) (tb 22 145903) ?_
    refine take_ (i := 4) (N := some 53) (v := ?_) (a' := ?_) (tb 22 145919) rfl rfl (by kernel_rfl) (fun _ _ _ h => h) (Or.inl ⟨by rfl, ?_⟩) hHeld ?_ ?_
    rotate_left
    ·intro w' s0
     go_simp
     with_reducible rfl
    rotate_left
    ·simp only [Act.put, List.setIfInBounds_toArray, List.set_cons_zero, List.set_cons_succ, i64_w, i32_w]
     rfl
    refine take_ (i := 9) (N := some 58) (v := ?_) (a' := ?_) (tb 22 146431) rfl rfl (by kernel_rfl) (fun _ _ _ h => h) (Or.inl ⟨by rfl, ?_⟩) hHeld ?_ ?_
    rotate_left
    ·intro w' s0
     go_simp
     with_reducible rfl
    rotate_left
    ·simp only [Act.put, List.setIfInBounds_toArray, List.set_cons_zero, List.set_cons_succ, i64_w, i32_w]
     rfl
    refine tP 10 (some 59) (tb 22 147455) ?_
    refine take_ (i := 14) (N := some 63) (v := ?_) (a' := ?_) (tb 22 163839) rfl rfl (by kernel_rfl) (fun _ _ _ h => h) (Or.inl ⟨by rfl, ?_⟩) hHeld ?_ ?_
    rotate_left
    ·intro w' s0
     go_simp
     with_reducible rfl
    rotate_left
    ·simp only [Act.put, List.setIfInBounds_toArray, List.set_cons_zero, List.set_cons_succ, i64_w, i32_w]
     rfl
    refine tP 15 (some 64) (tb 22 196607) ?_
    refine tP 16 (some 65) (tb 22 262143) ?_
    refine last_ (i := 18) (N := some 67) (tb 22 524287) rfl rfl (by kernel_rfl) (by decide) (fun K hK => ?_)
    refine roll_step (base := w0.heap.size) (ok := fun k => O k ∧ k ≠ g) (ok2 := fun k => w0.heap.size ≤ k) (L := G.L) (by rfl) (.tmp 65) (.tmp 66) (by rfl) HN.out (by have := HBD.out; omega) (HLR.out.2.step (fun k _ hlt => (show Below wr.heap.size wr _ from bE).block k hlt)) i HIN.out.1 (by have := HBD.out; omega) (l := lb) A9 HIN.out.2 (by rfl) (by rfl) (Kd.N_below HR7.out bE) ?_
    intro v8 w8 hg8 hG8
    obtain ⟨b8, cap8, rfl, hr8⟩ := id hG8
    generalize (G.L.drop i ++ List.replicate i lb).length = n8 at hG8
    have H8 := aS (And.intro hG8 (show Below wr.heap.size wr w8 from Below.grown (show Below wr.heap.size wr _ from bE) hg8 (by exact Nat.le_refl _) (fun k hk => by cases hk)))
    have hx8 := blk_below HLR.out.1 H8.out.2
    have hc8 := (blk_cell hx8 2).trans (rfl : _ = some (Value.slice (some ⟨b, 0, none⟩) G.L.length cap))
    have hz8 := blk_frozen hx8 2
    clear hg8 hG8 hr8 hx8
    refine hK.out _ _ ?_
    clear hK K
    refine nm ?_
    refine tP 19 (some 68) (tb 22 1048575) ?_
    refine tP 20 (some 69) (tb 22 2097151) ?_
    refine last_ (i := 21) (N := none) (tb 22 4194303) rfl rfl (by kernel_rfl) (by decide) (fun K hK => ?_)
    refine skip_ (w1 := ?_) (by rfl) rfl ?_ ?_
    rotate_left
    ·go_simp
     rfl
    refine hK.out _ _ ?_
    clear hK K
    refine done_ (by kernel_rfl) ?_
    all_goals go_wp2
    all_goals go_end0
    all_goals exact ⟨rfl, by
     have h := HS.out.rolled (below_then HBW.out HBW.out.size H8.out.2) (v1 := .slice (some ⟨b8, 0, none⟩) n8 cap8) (L' := gRoll G.L (gShift n G.L.length) (gBlank G.cols p0 p1 p2)) (by
      have := H8.out.1
      rw [HN.out, HSH.out, HLB.out]
      unfold gRoll
      rw [if_pos (by omega), Int.toNat_natCast]
      exact this.mono (fun k hk => hk.elim (fun h => h.elim .inl (fun h => .inr (Nat.le_trans HW0.out.size h))) (fun h => .inr (Nat.le_trans HBW.out.size h)))) (by have := HG.out; unfold gScroll at this; rw [if_pos HPP.out] at this; exact this)
     unfold gScroll
     rw [if_pos HPP.out]
     exact h.below bE⟩
   ·have HSI := aS hs
    have hin : i ≤ N := by have := HBD.out; omega
    have hT2 : decide ((0 : Int) ≤ s) = false := decide_eq_false (by omega)
    obtain ⟨m, hm⟩ : ∃ m, N - i = m := ⟨_, rfl⟩
    have hwm : wrap64 ((N : Int) + s) = (m : Int) := by rw [w64 (by have := HBD.out; omega) (by have := HBD.out; omega)]; omega
    obtain ⟨hcut, -, -⟩ := cut_take (P := Tryz.prog) kL 64 41 .i64 Tryz.underlying64 infoLn (some ⟨b, 0, none⟩) cap G.L (m : Int) (by omega) (by have := HN.out; omega) (by rw [HN.out]; exact hcap)
    rw [show (G.L.take (m : Int).toNat).length = m by rw [Int.toNat_natCast, List.length_take, HN.out]; omega, HN.out] at hcut
    have HIN := aS (And.intro hin (And.intro hm h0))
    clear hm h0 hin hs
    go_wp2_with (first | ((with_reducible refine gate_builtin (b := .append) (xs := #[.tmp 71, .tmp 79]) rfl ?_); go_must (at_builtin); go_must (refine Kd.N_append_rows kL (w0 := wr) w0.heap.size rfl (.tmp 71) (.tmp 79) 64 41 (.slice none 0 0) 24 rfl Tryz.underlying64 infoLn rfl (by decide) (by omega) (.slice A7 i c7) (List.replicate i lb) (G.L.take m) (some ⟨b, 0, none⟩) m cap (fun k => (O k ∧ k ≠ g) ∨ w0.heap.size ≤ k) (fun k => O k ∧ k ≠ g) rfl rfl (Kd.N_mono HR7.out (fun k hk => .inr hk)) (HLR.out.2.first (by have := HBD.out; have := HN.out; omega) m (by have := HN.out; have := HIN.out; omega)) ?hokp ?hfresh (Below.refl _ _) HB.out.hb.size ?hlen ?_); go_must (case hokp => intro k hk; exact ⟨.inl hk, fun e => by have h1 := HS.out.ob k hk.1; have h2 := HR7.out.1 k e.symm; have h3 := HW0.out.size; omega⟩); go_must (case hfresh => intro k hk; exact .inr (Nat.le_trans HB.out.hb.size hk)); go_must (case hlen => have := HBD.out; have := HIN.out; rw [List.length_replicate]; omega); intro v8 w8 ho hb hg8 hat; go_must (obtain ⟨A8, c8, e8⟩ := Kd.N_slice ho); generalize hn8 : (List.replicate i lb ++ G.L.take m).length = n8 at e8; subst e8; have HN8 := aS (And.intro ho hn8); have H8 := aS (Below.grown (Below.refl w0.heap.size wr) hg8 HB.out.hb.size (fun k hk => HR7.out.1 k hk)); have hx8 := blk_grown HLR.out.1 hg8 (fun e => by have := HR7.out.1 g e.symm; have := HW0.out.size; omega); have hc8 := (blk_cell hx8 2).trans (rfl : _ = some (Value.slice (some ⟨b, 0, none⟩) G.L.length cap)); have hz8 := blk_frozen hx8 2; clear ho hb hg8 hat hx8 hn8))
    all_goals go_end0
    all_goals exact ⟨rfl, by
     have hlen : (List.replicate i lb ++ G.L.take m).length = N := by rw [List.length_append, List.length_replicate, List.length_take, HN.out]; have := HIN.out; omega
     have h := HS.out.rolled (W1 := w8) ((below_then HW0.out HW0.out.size HB.out.hb).trans (H8.out.mono HW0.out.size)) (v1 := .slice A8 n8 c8) (L' := gRoll G.L (gShift n G.L.length) (gBlank G.cols p0 p1 p2)) (by
      rw [HN.out, HSH.out, HLB.out]
      unfold gRoll
      rw [if_neg (by have := HIN.out.2.2; omega), HSI.out, Int.neg_neg, Int.toNat_natCast, HN.out, HIN.out.2.1]
      exact (GL.ofN (by rw [hlen]; have := HBD.out; omega) HN8.out.1).mono (fun k hk => hk.elim .inl (fun h => .inr (Nat.le_trans HW0.out.size h)))) (by have := HG.out; unfold gScroll at this; rw [if_pos HPP.out] at this; exact this)
     unfold gScroll
     rw [if_pos HPP.out]
     exact h⟩
end
end Go.Proofs.YtblcmcdifgclcaaGreat.Grd
