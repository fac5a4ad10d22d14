/- GridPlays: what its proof leads to. No condition. -/
import Derived.Test.YtblcmcdifgclcaaGreatG6qGridPlays
import Derived.Test.YtblcmcdifgclcaaGreatG23qGridPlays
import Derived.Test.YtblcmcdifgclcaaGreatG24qGridPlays
import Derived.Test.YtblcmcdifgclcaaGreatG29qGridPlays
import Derived.Test.YtblcmcdifgclcaaGreatG35qGridPlays
import Derived.Test.YtblcmcdifgclcaaGreatG36qGridPlays
import Derived.Test.YtblcmcdifgclcaaGreatG37qGridPlays
namespace Go.Proofs.YtblcmcdifgclcaaGreat.Grd
open Go.RowKit Go.Proofs.YtblcmcdifgclcaaGreat Go.Proofs.YtblcmcdifgclcaaGreat.PGridPlays Go.Proofs.YtblcmcdifgclcaaGreatW.PrintWords Go.Proofs.YtblcmcdifgclcaaGreatW.PrintLast Go.Proofs.YtblcmcdifgclcaaGreatW.PrintMore
set_option linter.unusedVariables false
set_option linter.unusedSimpArgs false
set_option maxRecDepth 100000
set_option maxHeartbeats 4000000
attribute [local go_sem] isSome_setCell max2_int min2_int max_two min_two
def RGL (W : World) (ok : Nat → Prop) (v : Value) (L : List (List RC)) : Prop :=
 ∃ b cap, v = .slice (some ⟨b, 0, none⟩) L.length cap ∧ L.length ≤ cap ∧ ok b ∧ (∃ cs, W.heap[b]? = some (.cells cs tRL (0, 0))) ∧
  ∀ (j : Nat) (l : List RC), L[j]? = some l → ∃ A c, W.cell? ⟨b, j, none⟩ = some (.slice A l.length c) ∧ l.length ≤ c ∧ Kd.F kRC W (fun k => ok k ∧ k ≠ b) A l.length l
section
variable {W W1 : World} {ok ok' : Nat → Prop} {v : Value} {L : List (List RC)}
theorem RGL.step (h : RGL W ok v L) (hm : ∀ k, ok k → k < W.heap.size → W1.heap[k]? = W.heap[k]?) : RGL W1 ok v L := by
 obtain ⟨b, cap, rfl, hc, hb, ⟨cs, hx⟩, hr⟩ := h
 have hbl := hm b hb (blk_lt hx)
 refine ⟨b, cap, rfl, hc, hb, ⟨cs, hbl.trans hx⟩, fun j l hj => ?_⟩
 obtain ⟨A, c, h1, h2, h3⟩ := hr j l hj
 exact ⟨A, c, by rw [← h1]; simp [World.cell?, hbl], h2, Kd.F_step h3 (fun k hk hlt => hm k hk.1 hlt)⟩
theorem RGL.mono (h : RGL W ok v L) (hk : ∀ k, ok k → ok' k) : RGL W ok' v L := by
 obtain ⟨b, cap, rfl, hc, hb, hx, hr⟩ := h
 refine ⟨b, cap, rfl, hc, hk b hb, hx, fun j l hj => ?_⟩
 obtain ⟨A, c, h1, h2, h3⟩ := hr j l hj
 exact ⟨A, c, h1, h2, Kd.F_mono h3 (fun k h => ⟨hk k h.1, h.2⟩)⟩
theorem RGL.ofN {base : Nat} (hp : 0 < L.length) (h : Kd.N kRL tRL W base ok v L) : RGL W ok v L := by
 obtain ⟨g, cap, rfl, -, hlt, cs, hx⟩ := Kd.N_form h hp
 refine ⟨g, cap, rfl, (Kd.N_reads' h).2.1, h.1 g rfl, ⟨cs, hx⟩, fun j l hj => ?_⟩
 have hjl := (List.getElem?_eq_some_iff.1 hj).1
 obtain ⟨c, hcl, hK, hcc, -⟩ := Kd.N_elem h [] (j : Int) (by omega) (by omega)
 rw [Int.toNat_natCast, List.getD_eq_getElem?_getD, hj, Option.getD_some] at hK
 obtain ⟨A, c', rfl, hc', hF⟩ := Kd.FK_slice_open hK
 have := hcc 0 _ rfl
 rw [Int.toNat_natCast, show j * kRL.sz + 0 = j by show j * 1 + 0 = j; omega] at this
 exact ⟨A, c', this, hc', hF⟩
theorem RGL.store {b cap i : Nat} (h : RGL W ok (.slice (some ⟨b, 0, none⟩) L.length cap) L) (hi : i < L.length) {A : Option Addr} {c : Nat} {l' : List RC} (hc : l'.length ≤ c) (hF : Kd.F kRC W (fun k => ok k ∧ k ≠ b) A l'.length l') :
 RGL (W.setCell ⟨b, i, none⟩ (.slice A l'.length c)) ok (.slice (some ⟨b, 0, none⟩) L.length cap) (L.set i l') := by
 obtain ⟨b', cap', he, hcap, hb, ⟨cs, hx⟩, hr⟩ := h
 injection he with he1 he2 he3
 injection he1 with he1
 injection he1 with he1
 subst he1; subst he3
 have hxs := blk_set hx i (.slice A l'.length c)
 have hsz : i < cs.size := by
  obtain ⟨A0, c0, h1, -⟩ := hr i _ (List.getElem?_eq_getElem hi)
  rw [blk_cell hx] at h1
  exact (Array.getElem?_eq_some_iff.1 h1).1
 refine ⟨b, cap, by rw [List.length_set], by rw [List.length_set]; exact hcap, hb, ⟨_, hxs⟩, fun j l hj => ?_⟩
 rw [List.getElem?_set] at hj
 split at hj
 ·rename_i hij
  subst hij
  (try rw [if_pos hi] at hj)
  injection hj with hj
  subst hj
  refine ⟨A, c, by rw [blk_cell hxs]; simp [hsz], hc, Kd.F_far hF (fun k hk => hk.2) _⟩
 ·rename_i hij
  obtain ⟨A0, c0, h1, h2, h3⟩ := hr j l hj
  refine ⟨A0, c0, ?_, h2, Kd.F_far h3 (fun k hk => hk.2) _⟩
  rw [blk_cell hx] at h1
  rw [blk_cell hxs, Array.getElem?_setIfInBounds_ne hij]
  exact h1
end
theorem gNew_len (n m : Nat) : (gNew (n : Int) (m : Int)).L.length = n := by unfold gNew; simp
theorem rgNew_any (rows cols : Int) (hs : gSize rows cols = true) (w : World) : Calls Tryz.prog 8 #[.int .i64 rows, .int .i64 cols] w fun e w' => ∃ b cap N, e = .returned (gV (.slice (some ⟨b, 0, none⟩) N cap) (gNew rows cols)) ∧ N = (gNew rows cols).L.length ∧ RGL w' (fun k => w.heap.size ≤ k ∧ k < w'.heap.size) (.slice (some ⟨b, 0, none⟩) N cap) (toL (gNew rows cols).L) ∧ Below w.heap.size w w' := by
 have hok := gNew_ok hs
 unfold gSize at hs
 rw [Bool.and_eq_true, decide_eq_true_eq, decide_eq_true_eq] at hs
 obtain ⟨n, rfl⟩ : ∃ n : Nat, rows = (n : Int) := ⟨rows.toNat, by omega⟩
 obtain ⟨m, rfl⟩ : ∃ m : Nat, cols = (m : Int) := ⟨cols.toNat, by omega⟩
 refine (prolepsisref07_New.calls 1300 (n : Int) (m : Int) _ _ _ w (rgNew_ok n m (by omega) 1300 (by omega))).mono ?_
 rintro e w' ⟨v, rfl, hS, hb⟩
 have hN := Kd.N_bound (Kd.S_N hS)
 have hbase := Kd.N_base hN
 have hG := RGL.ofN (by rw [toL_len]; have := hok.r1; omega) hN
 have hS2 := hS
 obtain ⟨b, cap, rfl, -, -, -, -⟩ := id hG
 refine ⟨b, cap, _, rfl, toL_len _, ?_, hb⟩
 have hR := Kd.S_R hS2
 have hR2 := Kd.R_bound hR
 refine RGL.ofN (by rw [toL_len]; have := hok.r1; omega) (Kd.N_mono (Kd.R_N hR2) (fun k hk => ⟨hk.2.1, hk.2.2.1⟩))
theorem rgMove_any {W : World} {ok : Nat → Prop} {A : Option Addr} {c N : Nat} {G : GV} (hk : G.ok) (h : RD kRL W ok (.slice A N c) (toL G.L)) (r q : Int) : Calls Tryz.prog 40 #[gV (.slice A N c) G, .int .i64 r, .int .i64 q] W fun e w' => e = .returned (gV (.slice A N c) (gMove G r q)) ∧ Below W.heap.size W w' := by
 obtain ⟨A', c', he, hc, hF⟩ := h
 injection he with e1 e2 e3
 subst e1 e2 e3
 exact prolepsisref07_Move.calls A c (toL G.L) G.row G.col r q _ _ W (Kd.F_now hF) hc (rMove_ok hk _ _ _ _)
theorem rgSame_any {W : World} {ok ok2 : Nat → Prop} {A B : Option Addr} {c N d M : Nat} {G G2 : GV} (hk : G.ok) (h : RD kRL W ok (.slice A N c) (toL G.L)) (h2 : RD kRL W ok2 (.slice B M d) (toL G2.L)) : Calls Tryz.prog 45 #[gV (.slice A N c) G, gV (.slice B M d) G2] W fun e w' => e = .returned (.bool (rSameV G G2)) ∧ Below W.heap.size W w' := by
 obtain ⟨A', c', he, hc, hF⟩ := h
 injection he with e1 e2 e3
 subst e1 e2 e3
 obtain ⟨B', d', he, hd, hF2⟩ := h2
 injection he with e1 e2 e3
 subst e1 e2 e3
 exact prolepsisref07_Same.calls 4000 A c (toL G.L) G.row G.col B d (toL G2.L) G2.row G2.col _ W (Kd.F_now hF) hc (Kd.F_now hF2) hd (rgSame_ok G G2 hk 4000 (by omega))
theorem RGL.rd {W : World} {ok : Nat → Prop} {b cap N : Nat} {L : List (List RC)} (h : RGL W ok (.slice (some ⟨b, 0, none⟩) N cap) L) (hs : L.length ≤ 512) : RD kRL W ok (.slice (some ⟨b, 0, none⟩) N cap) L := by
 obtain ⟨b0, cap0, he, hc0, -⟩ := id h
 injection he with e1 e2 e3
 subst e2
 refine ⟨_, cap, rfl, by omega, fun W' hW => ?_⟩
 have h' := h.step hW
 obtain ⟨b', cap', he, hcap, hb, -, hr⟩ := h'
 injection he with he1 he2 he3
 injection he1 with he1
 injection he1 with he1
 subst he1
 refine ⟨rfl, by omega, fun _ => ⟨_, rfl, fun j l hj => ?_⟩⟩
 obtain ⟨A, c, h1, h2, h3⟩ := hr j l hj
 refine ⟨[.slice A l.length c], rfl, ⟨A, c, rfl, h2, Kd.F_now h3⟩, fun i u hi => ?_⟩
 have hi0 : i = 0 := by have := (List.getElem?_eq_some_iff.1 hi).1; simp at this; omega
 subst hi0
 have hu : Value.slice A l.length c = u := by simpa using hi
 subst hu
 have e : (⟨b, 0, none⟩ : Addr).add (j * kRL.sz + 0) = ⟨b, j, none⟩ := by
  show (⟨b, 0, none⟩ : Addr).add (j * 1 + 0) = _
  rw [Nat.mul_one, Nat.add_zero]
  cases j <;> simp [Addr.add]
 rw [e]
 exact h1
theorem RGL.store2 {W : World} {ok : Nat → Prop} {L : List (List RC)} {b cap i n : Nat} (h : RGL W ok (.slice (some ⟨b, 0, none⟩) n cap) L) (hi : i < L.length) {A : Option Addr} {c : Nat} {l' : List RC} (hc : l'.length ≤ c) (hF : Kd.F kRC W (fun k => ok k ∧ k ≠ b) A l'.length l') :
 RGL (W.setCell ⟨b, i, none⟩ (.slice A l'.length c)) ok (.slice (some ⟨b, 0, none⟩) n cap) (L.set i l') := by
 obtain ⟨b', cap', he, -⟩ := id h
 injection he with _ e2 _
 subst e2
 exact h.store hi hc hF
theorem QW.far {w W W1 : World} {gs : List (Nat × Obj)} {b : Nat} (h : QW w W gs) (hg : W.grownBy W1 (some b)) (hn : ∀ p ∈ gs, p.1 ≠ b) (hb : w.heap.size ≤ b) : QW w W1 gs :=
 ⟨h.hb.grown hg h.hb.size (fun k hk => by injection hk with hk; rw [← hk]; exact hb), fun p hp => ⟨blk_grown (h.bx p hp).1 hg (fun e => by injection e with e; exact hn p hp e), (h.bx p hp).2⟩, h.nd⟩
theorem RD.wrg {α : Type} {d : Kd α} {W W1 : World} {ok : Nat → Prop} {v : Value} {l : List α} {g : Nat} (h : RD d W ok v l) (hg : W.grownBy W1 (some g)) (hk : ∀ k, ok k → k ≠ g) : RD d W1 ok v l := by
 obtain ⟨A, c, rfl, hc, hF⟩ := h
 exact ⟨A, c, rfl, hc, Kd.F_grown hF hg (fun k h e => by injection e with e; exact hk k h e)⟩
theorem rFitF_any (l : List CS) (m : Int) (hl : l.length ≤ 1000) (A : Option Addr) (c : Nat) (w : World) (ok : Nat → Prop) (hc : l.length ≤ c) (hF : Kd.F kRC w ok A l.length (l.map toR)) :
 Calls Tryz.prog 75 #[.slice A l.length c, .int .i64 m] w fun e w' => ∃ A' c', e = .returned (.slice A' (fitC l m).length c') ∧ (fitC l m).length ≤ c' ∧ Kd.F kRC w' (fun k => w.heap.size ≤ k) A' (fitC l m).length ((fitC l m).map toR) ∧ Below w.heap.size w w' := by
 have h := prolepsisref06_Fit.calls 2000 A c (l.map toR) m _ w (by rw [List.length_map]; exact Kd.F_now hF) (by rw [List.length_map]; exact hc) (rFit_ok l (by omega) m 2000 (by omega))
 rw [List.length_map] at h
 refine h.mono ?_
 rintro e w' ⟨v, rfl, hR, hb⟩
 obtain ⟨A', c', rfl, hc', hF'⟩ := RD.ofR hR
 rw [List.length_map] at hc' hF' ⊢
 exact ⟨A', c', rfl, hc', hF', hb⟩
theorem rgFit_any {G : GV} (hk : G.ok) {w : World} {ok : Nat → Prop} {A : Option Addr} {N c : Nat} (hR : RD kRL w ok (.slice A N c) (toL G.L)) (rows cols : Int) (hs : gSize rows cols = true) :
 Calls Tryz.prog 42 #[gV (.slice A N c) G, .int .i64 rows, .int .i64 cols] w (GPost w ok (gFit G rows cols)) := by
 have HR := aS hR.bound
 have HK := aS hk
 have HZ := aS hs
 unfold gSize at hs
 rw [Bool.and_eq_true, decide_eq_true_eq, decide_eq_true_eq] at hs
 obtain ⟨n, rfl⟩ : ∃ n : Nat, rows = (n : Int) := ⟨rows.toNat, by omega⟩
 obtain ⟨m, rfl⟩ : ∃ m : Nat, cols = (m : Int) := ⟨cols.toNat, by omega⟩
 have hNN : N = G.L.length := by obtain ⟨A', c', he, -, -⟩ := hR; injection he with e1 e2 e3; rw [e2, toL_len]
 obtain ⟨ad, rfl⟩ : ∃ ad, A = some ad := by
  obtain ⟨A', c', he, -, hF⟩ := hR
  injection he with e1 e2 e3
  subst e1
  obtain ⟨ad, cs, h1, -⟩ := Kd.F_get hF [] 0 (by omega) (by have := hk.r1; rw [toL_len]; omega)
  exact ⟨ad, h1⟩
 obtain ⟨k, hk'⟩ : ∃ k, min n N = k := ⟨_, rfl⟩
 have HNM := aS (show ((1 ≤ n ∧ n ≤ 512) ∧ (1 ≤ m ∧ m ≤ 512)) ∧ N = G.L.length ∧ N ≤ 512 ∧ k = min n N from ⟨by omega, hNN, by rw [hNN]; exact hk.r2, hk'.symm⟩)
 clear hR hk hs hNN hk'
 go_enter Tryz.func42, Tryz.ntmps42
 go_wp2_with (first | (refine bx 3 #[.slice (some ad) N c, .int .i64 G.row, .int .i64 G.col] 32 ?_; intro g4 hg_ w1 hx_ hb_; go_must (have Qw1 := aS (QW.box (o := .cells #[.slice (some ad) N c, .int .i64 G.row, .int .i64 G.col] 32 (0, 0)) (QW.new w) hx_ hg_ hb_)); clear hg_ hx_ hb_) | (refine bx 6 #[.slice none 0 0, .int .i64 0, .int .i64 0] 32 ?_; intro g8 hg_ w2 hx_ hb_; go_must (have Qw2 := aS (QW.box (o := .cells #[.slice none 0 0, .int .i64 0, .int .i64 0] 32 (0, 0)) Qw1.out hx_ hg_ hb_)); clear hg_ hx_ hb_) | (go_at_call 8; go_must (refine (rgNew_any (n : Int) (m : Int) HZ.out w2).mono ?_); rintro e w3 ⟨b7, cap7, N7, rfl, hN7, hG7, hb_⟩; obtain rfl : n = N7 := (hN7.trans (gNew_len n m)).symm; have Qw3 := aS (Qw2.out.below hb_); have G3 := aS (And.intro hG7 (And.intro (show w.heap.size ≤ w2.heap.size from Qw2.out.hb.size) hb_.size)); clear hN7 hG7 hb_) | (refine bx 7 #[.slice none 0 0, .int .i64 0, .int .i64 0] 32 ?_; intro g7 hg_ w4 hx_ hb_; have B4 := aS hb_; have G7 := aS (And.intro hg_ (show w2.heap.size ≤ w3.heap.size from G3.out.2.2)); go_must (have Qw4 := aS (QW.box (o := .cells #[.slice none 0 0, .int .i64 0, .int .i64 0] 32 (0, 0)) Qw3.out hx_ hg_ hb_)); clear hg_ hx_ hb_) | ((with_reducible refine gate_store (t := 32) (p := 7) rfl ?_); go_must (refine step_whole (.tmp 7) (.tmp 11) rfl rfl rfl rfl rfl (Qw4.out.bx (g7, gZ) (by simp)).1 rfl (by kernel_rfl) (by simp [Value.oneCell']; done) ?_); intro w5 hx_ hg_; go_must (have Qw5 := aS (And.intro (QW.store (l1 := []) (l2 := [(g8, gZ), (g4, gB (.slice (some ad) N c) G)]) (o' := gB (.slice (some ⟨b7, 0, none⟩) n cap7) (gNew (n : Int) (m : Int))) Qw4.out hx_ hg_) hg_)); clear hx_ hg_))
 have HS2 := aS (show w.heap.size ≤ w2.heap.size ∧ g4 < w2.heap.size ∧ g8 < w2.heap.size ∧ w2.heap.size ≤ g7 ∧ w3.heap.size ≤ g7 ∧ w2.heap.size ≤ w3.heap.size from by
  have h4 := blk_lt (Qw2.out.bx (g4, gB (.slice (some ad) N c) G) (by simp)).1
  have h8 := blk_lt (Qw2.out.bx (g8, gZ) (by simp)).1
  exact ⟨Qw2.out.hb.size, h4, h8, by have := G7.out.1; have := G7.out.2; omega, by have := G7.out.1; omega, G7.out.2⟩)
 have HG0 := aS (show RGL w5 (fun k => w2.heap.size ≤ k ∧ k ≠ g7) (.slice (some ⟨b7, 0, none⟩) n cap7) (toL (fitP G n m 0).L) by
  rw [fitP_zero]
  exact ((G3.out.1.step (fun k hk _ => B4.out.block k hk.2)).step (fun k hk _ => Qw5.out.2.block k (Nat.lt_of_lt_of_le hk.2 B4.out.size) (fun e => by injection e with e; have := HS2.out; omega))).mono (fun k hk => ⟨hk.1, by have := HS2.out; omega⟩))
 go_loopg [8] (k + 1) (fun kq v8 w' => ∃ (i : Nat), v8 = .int .i64 i ∧ Aside0 (kq = k - i + 1 ∧ i ≤ k) ∧ Aside0 (QW w w' [(g7, gB (.slice (some ⟨b7, 0, none⟩) n cap7) (gNew (n : Int) (m : Int))), (g8, gZ), (g4, gB (.slice (some ad) N c) G)] ∧ w5.heap.size ≤ w'.heap.size ∧ RGL w' (fun k => w2.heap.size ≤ k ∧ k ≠ g7) (.slice (some ⟨b7, 0, none⟩) n cap7) (toL (fitP G n m i).L)))
 case atStart => exact ⟨0, by go_num, ⟨by omega, by omega⟩, ⟨Qw5.out.1, Nat.le_refl _, HG0.out⟩⟩
 case round =>
  obtain ⟨i, rfl, HK2, HB⟩ := hrel
  obtain ⟨y0, y1, y2⟩ := gcells (HB.out.1.bx (g4, gB (.slice (some ad) N c) G) (by simp)).1
  have z0 := (blk_cell (HB.out.1.bx (g7, gB (.slice (some ⟨b7, 0, none⟩) n cap7) (gNew (n : Int) (m : Int))) (by simp)).1 0).trans (rfl : _ = some (Value.slice (some ⟨b7, 0, none⟩) n cap7))
  have z1 := (blk_cell (HB.out.1.bx (g7, gB (.slice (some ⟨b7, 0, none⟩) n cap7) (gNew (n : Int) (m : Int))) (by simp)).1 1).trans (rfl : _ = some (Value.int .i64 0))
  have z2 := (blk_cell (HB.out.1.bx (g7, gB (.slice (some ⟨b7, 0, none⟩) n cap7) (gNew (n : Int) (m : Int))) (by simp)).1 2).trans (rfl : _ = some (Value.int .i64 0))
  have hnm := HNM.out
  by_cases hi : i < k
  ·have hT1 : decide (i < n) = true := decide_eq_true (by omega)
   have hT2 : decide (i < N) = true := decide_eq_true (by omega)
   have hin : i < n := by omega
   have hiN : i < N := by omega
   have hw1 : wrap64 ((i : Int) + 1) = ((i + 1 : Nat) : Int) := by rw [w64 (by omega) (by omega)]; omega
   obtain ⟨l, hl⟩ : ∃ l, G.L[i]? = some l := ⟨_, List.getElem?_eq_getElem (by omega)⟩
   have hll : l.length ≤ 1000 := by have := HK.out.len l (List.mem_of_getElem? hl); have := HK.out.c2; omega
   obtain ⟨A1, c1, hcl, hcc, hF1⟩ := HR.out.row hl
   have r4 := pw_cell_below HB.out.1.hb hcl
   have HFF := aS (And.intro hcc (And.intro (Kd.F_below hF1 HB.out.1.hb) hll))
   obtain ⟨b', cap', he, hcap, hb', ⟨cs, hx'⟩, hr'⟩ := id HB.out.2.2
   injection he with he1 he2 he3
   injection he1 with he1
   injection he1 with he1
   subst he1
   obtain ⟨l1, hl1⟩ : ∃ l1, (toL (fitP G n m i).L)[i]? = some l1 := ⟨_, List.getElem?_eq_getElem (by rw [toL_len, fitP_len G m (by omega) (by omega)]; omega)⟩
   obtain ⟨A0, c0, k0, -, -⟩ := hr' i l1 hl1
   have HT := aS (And.intro (blk_lt hx') (And.intro k0 (And.intro (blk_frozen hx' i) hb')))
   have HSET := aS (And.intro (fitP_set (G := G) (cols := m) hin hl) (show i < (toL (fitP G n m i).L).length by rw [toL_len, fitP_len G m (by omega) (by omega)]; omega))
   clear hl hcl hcc hF1 hll hx' hr' hl1 k0 hcap hb' hnm he2 he3
   go_wp2
   refine start_ (n := 12) (S := fun w' => w'.cell? ⟨g7, 0, none⟩ = some (.slice (some ⟨b7, 0, none⟩) n cap7) ∧ w'.cell? ⟨g4, 0, none⟩ = some (.slice (some ad) N c) ∧ w'.cell? (ad.add i) = some (.slice A1 l.length c1)) (ds := [11]) (tb 12 0) (by kernel_rfl) rfl rfl ⟨z0, y0, r4⟩ (fun hHeld => ?_)
   refine tP 0 (some 24) (tb 12 1) ?_
   refine tP 2 (some 26) (tb 12 5) ?_
   refine tP 3 (some 27) (tb 12 13) ?_
   refine tP 5 (some 29) (tb 12 45) ?_
   refine tP 8 (some 32) (tb 12 301) ?_
   refine tK 1 (some 25) (tb 12 303) ?_
   refine tK 4 (some 28) (tb 12 319) ?_
   refine tP 6 (some 30) (tb 12 383) ?_
   refine tK 7 (some 31) (tb 12 511) ?_
   refine sO 9 (some 33) (tb 12 1023) (fun K hK => ?_)
   refine gO Tryz.func75 #[.slice A1 l.length c1, .int .i64 m] ?_
   with_reducible refine (rFitF_any l (m : Int) HFF.out.2.2 A1 c1 _ _ HFF.out.1 (Kd.F_below HFF.out.2.1 bE)).mono ?_
   rintro e w6 ⟨A9, c9, rfl, hc9, hF9, hb⟩
   refine ⟨_, rfl, ?_⟩
   have H6 := aS (And.intro (show Below wr.heap.size wr w6 from below_step bE hb) (And.intro hc9 (Kd.F_mono hF9 (ok' := fun k => wr.heap.size ≤ k) (fun k hk => hk))))
   have HY := aS (And.intro (pw_cell_below H6.out.1 z0) (And.intro (pw_cell_below H6.out.1 y0) (pw_cell_below H6.out.1 r4)))
   have hk6 := (H6.out.1.cell HT.out.1).trans HT.out.2.1
   have hz6 := (H6.out.1.frozen HT.out.1).trans HT.out.2.2.1
   clear hb hc9 hF9
   refine hK.out _ _ ⟨HY.out.1, HY.out.2.1, HY.out.2.2⟩ (fun hHeld => ?_)
   clear hK K
   refine nm ?_
   refine tP 10 (some 34) (tb 12 2047) ?_
   refine last_ (i := 11) (N := none) (tb 12 4095) rfl rfl (by kernel_rfl) (by decide) (fun K hK => ?_)
   refine skip_ (w1 := ?_) (by rfl) rfl ?_ ?_
   rotate_left
   ·go_simp
    rfl
   refine hK.out _ _ ?_
   clear hK K
   refine done_ (by kernel_rfl) ?_
   all_goals go_wp2
   all_goals go_roundg (k - (i + 1) + 1)
   all_goals first | (case measure => have := HK2.out; omega) | (case rel => exact ⟨i + 1, by go_num, ⟨rfl, by omega⟩, ⟨by
    have hq := HB.out.1.below H6.out.1
    have hs2 := HS2.out
    have hsz : ∀ (W : World) (p : Addr) (u : Value), (W.setCell p u).heap.size = W.heap.size := fun W p u => by simp [World.setCell]
    refine ⟨hq.far (grown_set (grown_refl _ _) i _) (fun p hp => ?_) (Nat.le_trans hs2.1 HT.out.2.2.2.1), by rw [hsz]; exact Nat.le_trans HB.out.2.1 H6.out.1.size, ?_⟩
    ·have h0 := HT.out.2.2.2
     simp only [List.mem_cons, List.not_mem_nil, or_false] at hp
     rcases hp with rfl | rfl | rfl
     ·exact fun e => h0.2 e.symm
     ·show g8 ≠ b7; omega
     ·show g4 ≠ b7; omega
    ·have h1 := (HB.out.2.2.step (W1 := w6) (fun k _ hlt => H6.out.1.block k hlt)).store2 (i := i) HSET.out.2 (l' := (fitC l (m : Int)).map toR) (A := A9) (c := c9) (by rw [List.length_map]; exact H6.out.2.1) (by rw [List.length_map]; exact Kd.F_mono H6.out.2.2 (ok' := fun k => (w2.heap.size ≤ k ∧ k ≠ g7) ∧ k ≠ b7) (fun k hk => ⟨⟨by have := HB.out.2.1; have := Qw5.out.2.size; have := B4.out.size; have := HS2.out; omega, by have := blk_lt (HB.out.1.bx (g7, gB (.slice (some ⟨b7, 0, none⟩) n cap7) (gNew (n : Int) (m : Int))) (by simp)).1; omega⟩, by have := HT.out.1; omega⟩))
     rw [List.length_map] at h1
     rw [← toL_set] at h1
     have h2 := HSET.out.1
     unfold gSet at h2
     rw [Int.toNat_natCast] at h2
     rw [← h2]
     exact h1⟩⟩)
  ·obtain rfl : k = i := by have := HK2.out; omega
   have HMV := aS (rgMove_any (fitP_ok HK.out hnm.1.1 hnm.1.2 (i := k) (by omega) (by omega)) (HB.out.2.2.rd (by rw [toL_len, fitP_len G m (by omega) (by omega)]; omega)) G.row G.col)
   have HAL := aS (fitP_all (G := G) (rows := n) (cols := m) k (by omega))
   by_cases hkn : k = n
   ·have hT1 : decide (k < n) = false := decide_eq_false (by omega)
    clear hi hkn hnm
    go_wp2_with (first | (go_at_call 40; go_must (refine (show Calls Tryz.prog 40 #[.agg #[.slice (some ⟨b7, 0, none⟩) n cap7, .int .i64 0, .int .i64 0], .int .i64 G.row, .int .i64 G.col] wr _ from HMV.out).mono ?_); rintro e w6 ⟨rfl, hb_⟩; rw [HAL.out]; have Qw6 := aS (HB.out.1.below hb_); have RD6 := aS ((HB.out.2.2.rd (by rw [toL_len, fitP_len G m (by have := HNM.out; omega) (by have := HNM.out; omega)]; have := HNM.out; omega)).below hb_); clear hb_) | ((with_reducible refine gate_store (t := 32) (p := 6) rfl ?_); go_must (refine step_whole (.tmp 6) (.tmp 40) rfl rfl rfl rfl rfl (Qw6.out.bx (g8, gZ) (by simp)).1 rfl (by kernel_rfl) (by simp [Value.oneCell']; done) ?_); intro w7 hx_ hg_; go_must (have Qw7 := aS (And.intro (QW.store (l1 := [(g7, gB (.slice (some ⟨b7, 0, none⟩) n cap7) (gNew (n : Int) (m : Int)))]) (l2 := [(g4, gB (.slice (some ad) N c) G)]) (o' := gB (.slice (some ⟨b7, 0, none⟩) n cap7) (gFit G (n : Int) (m : Int))) Qw6.out hx_ hg_) hg_)); clear hx_ hg_))
    refine bodyPost_ret (results_cell_row rfl _ _ g8 32 _ (0, 0) _ rfl (Qw7.out.1.bx (g8, gB (.slice (some ⟨b7, 0, none⟩) n cap7) (gFit G (n : Int) (m : Int))) (by simp)).1 Tryz.underlying32 rfl (by kernel_rfl)) rfl ?_
    exact ⟨_, rfl, by
     have h := (RD6.out.wrg Qw7.out.2 (fun k hk => by have := HS2.out; omega)).mono (ok' := fun k => ok k ∨ w.heap.size ≤ k) (fun k hk => .inr (by have := HS2.out; omega))
     have h2 := congrArg (fun g => toL g.L) HAL.out
     change toL (fitP G n m k).L = _ at h2
     rw [h2] at h
     exact h, Qw7.out.1.hb⟩
   ·have hT1 : decide (k < n) = true := decide_eq_true (by omega)
    have hT2 : decide (k < N) = false := decide_eq_false (by omega)
    clear hi hkn hnm
    go_wp2_with (first | (go_at_call 40; go_must (refine (show Calls Tryz.prog 40 #[.agg #[.slice (some ⟨b7, 0, none⟩) n cap7, .int .i64 0, .int .i64 0], .int .i64 G.row, .int .i64 G.col] wr _ from HMV.out).mono ?_); rintro e w6 ⟨rfl, hb_⟩; rw [HAL.out]; have Qw6 := aS (HB.out.1.below hb_); have RD6 := aS ((HB.out.2.2.rd (by rw [toL_len, fitP_len G m (by have := HNM.out; omega) (by have := HNM.out; omega)]; have := HNM.out; omega)).below hb_); clear hb_) | ((with_reducible refine gate_store (t := 32) (p := 6) rfl ?_); go_must (refine step_whole (.tmp 6) (.tmp 40) rfl rfl rfl rfl rfl (Qw6.out.bx (g8, gZ) (by simp)).1 rfl (by kernel_rfl) (by simp [Value.oneCell']; done) ?_); intro w7 hx_ hg_; go_must (have Qw7 := aS (And.intro (QW.store (l1 := [(g7, gB (.slice (some ⟨b7, 0, none⟩) n cap7) (gNew (n : Int) (m : Int)))]) (l2 := [(g4, gB (.slice (some ad) N c) G)]) (o' := gB (.slice (some ⟨b7, 0, none⟩) n cap7) (gFit G (n : Int) (m : Int))) Qw6.out hx_ hg_) hg_)); clear hx_ hg_))
    refine bodyPost_ret (results_cell_row rfl _ _ g8 32 _ (0, 0) _ rfl (Qw7.out.1.bx (g8, gB (.slice (some ⟨b7, 0, none⟩) n cap7) (gFit G (n : Int) (m : Int))) (by simp)).1 Tryz.underlying32 rfl (by kernel_rfl)) rfl ?_
    exact ⟨_, rfl, by
     have h := (RD6.out.wrg Qw7.out.2 (fun k hk => by have := HS2.out; omega)).mono (ok' := fun k => ok k ∨ w.heap.size ≤ k) (fun k hk => .inr (by have := HS2.out; omega))
     have h2 := congrArg (fun g => toL g.L) HAL.out
     change toL (fitP G n m k).L = _ at h2
     rw [h2] at h
     exact h, Qw7.out.1.hb⟩
end Go.Proofs.YtblcmcdifgclcaaGreat.Grd
