/- GridApart: what its proof leads to. No condition. -/
import Derived.Test.YtblcmcdifgclcaaG27qGridApart
import Derived.Test.YtblcmcdifgclcaaG23qGridApart
import Derived.Test.YtblcmcdifgclcaaG4qGridApart
namespace Go.Proofs.Ytblcmcdifgclcaa.Grd
open Go.RowKit Go.Proofs.Ytblcmcdifgclcaa Go.Proofs.Ytblcmcdifgclcaa.PGridSame Go.Proofs.YtblcmcdifgclcaaW.PrintWords Go.Proofs.YtblcmcdifgclcaaW.PrintLast Go.Proofs.YtblcmcdifgclcaaW.PrintMore
set_option linter.unusedVariables false
set_option linter.unusedSimpArgs false
set_option maxRecDepth 100000
set_option maxHeartbeats 4000000
attribute [local go_sem] isSome_setCell max2_int min2_int max_two min_two
def RGL (W : World) (ok : Nat → Prop) (v : Value) (L : List (List RC)) : Prop :=
 ∃ b cap, v = .slice (some ⟨b, 0, none⟩) L.length cap ∧ L.length ≤ cap ∧ ok b ∧ (∃ cs, W.heap[b]? = some (.cells cs tRL (0, 0))) ∧
  ∀ (j : Nat) (l : List RC), L[j]? = some l → ∃ A c, W.cell? ⟨b, j, none⟩ = some (.slice A l.length c) ∧ l.length ≤ c ∧ Kd.F kRC W (fun k => ok k ∧ k ≠ b) A l.length l
section
variable {W W1 : World} {ok ok' : Nat → Prop} {v : Value} {L : List (List RC)}
theorem RGL.step (h : RGL W ok v L) (hm : ∀ k, ok k → k < W.heap.size → W1.heap[k]? = W.heap[k]?) : RGL W1 ok v L := by
 obtain ⟨b, cap, rfl, hc, hb, ⟨cs, hx⟩, hr⟩ := h
 have hbl := hm b hb (blk_lt hx)
 refine ⟨b, cap, rfl, hc, hb, ⟨cs, hbl.trans hx⟩, fun j l hj => ?_⟩
 obtain ⟨A, c, h1, h2, h3⟩ := hr j l hj
 exact ⟨A, c, by rw [← h1]; simp [World.cell?, hbl], h2, Kd.F_step h3 (fun k hk hlt => hm k hk.1 hlt)⟩
theorem RGL.mono (h : RGL W ok v L) (hk : ∀ k, ok k → ok' k) : RGL W ok' v L := by
 obtain ⟨b, cap, rfl, hc, hb, hx, hr⟩ := h
 refine ⟨b, cap, rfl, hc, hk b hb, hx, fun j l hj => ?_⟩
 obtain ⟨A, c, h1, h2, h3⟩ := hr j l hj
 exact ⟨A, c, h1, h2, Kd.F_mono h3 (fun k h => ⟨hk k h.1, h.2⟩)⟩
theorem RGL.ofN {base : Nat} (hp : 0 < L.length) (h : Kd.N kRL tRL W base ok v L) : RGL W ok v L := by
 obtain ⟨g, cap, rfl, -, hlt, cs, hx⟩ := Kd.N_form h hp
 refine ⟨g, cap, rfl, (Kd.N_reads' h).2.1, h.1 g rfl, ⟨cs, hx⟩, fun j l hj => ?_⟩
 have hjl := (List.getElem?_eq_some_iff.1 hj).1
 obtain ⟨c, hcl, hK, hcc, -⟩ := Kd.N_elem h [] (j : Int) (by omega) (by omega)
 rw [Int.toNat_natCast, List.getD_eq_getElem?_getD, hj, Option.getD_some] at hK
 obtain ⟨A, c', rfl, hc', hF⟩ := Kd.FK_slice_open hK
 have := hcc 0 _ rfl
 rw [Int.toNat_natCast, show j * kRL.sz + 0 = j by show j * 1 + 0 = j; omega] at this
 exact ⟨A, c', this, hc', hF⟩
theorem RGL.store {b cap i : Nat} (h : RGL W ok (.slice (some ⟨b, 0, none⟩) L.length cap) L) (hi : i < L.length) {A : Option Addr} {c : Nat} {l' : List RC} (hc : l'.length ≤ c) (hF : Kd.F kRC W (fun k => ok k ∧ k ≠ b) A l'.length l') :
 RGL (W.setCell ⟨b, i, none⟩ (.slice A l'.length c)) ok (.slice (some ⟨b, 0, none⟩) L.length cap) (L.set i l') := by
 obtain ⟨b', cap', he, hcap, hb, ⟨cs, hx⟩, hr⟩ := h
 injection he with he1 he2 he3
 injection he1 with he1
 injection he1 with he1
 subst he1; subst he3
 have hxs := blk_set hx i (.slice A l'.length c)
 have hsz : i < cs.size := by
  obtain ⟨A0, c0, h1, -⟩ := hr i _ (List.getElem?_eq_getElem hi)
  rw [blk_cell hx] at h1
  exact (Array.getElem?_eq_some_iff.1 h1).1
 refine ⟨b, cap, by rw [List.length_set], by rw [List.length_set]; exact hcap, hb, ⟨_, hxs⟩, fun j l hj => ?_⟩
 rw [List.getElem?_set] at hj
 split at hj
 ·rename_i hij
  subst hij
  (try rw [if_pos hi] at hj)
  injection hj with hj
  subst hj
  refine ⟨A, c, by rw [blk_cell hxs]; simp [hsz], hc, Kd.F_far hF (fun k hk => hk.2) _⟩
 ·rename_i hij
  obtain ⟨A0, c0, h1, h2, h3⟩ := hr j l hj
  refine ⟨A0, c0, ?_, h2, Kd.F_far h3 (fun k hk => hk.2) _⟩
  rw [blk_cell hx] at h1
  rw [blk_cell hxs, Array.getElem?_setIfInBounds_ne hij]
  exact h1
end
theorem gNew_len (n m : Nat) : (gNew (n : Int) (m : Int)).L.length = n := by unfold gNew; simp
theorem rgNew_any (rows cols : Int) (hs : gSize rows cols = true) (w : World) : Calls Try.prog 78 #[.int .i64 rows, .int .i64 cols] w fun e w' => ∃ b cap N, e = .returned (gV (.slice (some ⟨b, 0, none⟩) N cap) (gNew rows cols)) ∧ N = (gNew rows cols).L.length ∧ RGL w' (fun k => w.heap.size ≤ k ∧ k < w'.heap.size) (.slice (some ⟨b, 0, none⟩) N cap) (toL (gNew rows cols).L) ∧ Below w.heap.size w w' := by
 have hok := gNew_ok hs
 unfold gSize at hs
 rw [Bool.and_eq_true, decide_eq_true_eq, decide_eq_true_eq] at hs
 obtain ⟨n, rfl⟩ : ∃ n : Nat, rows = (n : Int) := ⟨rows.toNat, by omega⟩
 obtain ⟨m, rfl⟩ : ∃ m : Nat, cols = (m : Int) := ⟨cols.toNat, by omega⟩
 refine (prolepsisref07_New.calls 1300 (n : Int) (m : Int) _ _ _ w (rgNew_ok n m (by omega) 1300 (by omega))).mono ?_
 rintro e w' ⟨v, rfl, hS, hb⟩
 have hN := Kd.N_bound (Kd.S_N hS)
 have hbase := Kd.N_base hN
 have hG := RGL.ofN (by rw [toL_len]; have := hok.r1; omega) hN
 have hS2 := hS
 obtain ⟨b, cap, rfl, -, -, -, -⟩ := id hG
 refine ⟨b, cap, _, rfl, toL_len _, ?_, hb⟩
 have hR := Kd.S_R hS2
 have hR2 := Kd.R_bound hR
 refine RGL.ofN (by rw [toL_len]; have := hok.r1; omega) (Kd.N_mono (Kd.R_N hR2) (fun k hk => ⟨hk.2.1, hk.2.2.1⟩))
theorem rgMove_any {W : World} {ok : Nat → Prop} {A : Option Addr} {c N : Nat} {G : GV} (hk : G.ok) (h : RD kRL W ok (.slice A N c) (toL G.L)) (r q : Int) : Calls Try.prog 117 #[gV (.slice A N c) G, .int .i64 r, .int .i64 q] W fun e w' => e = .returned (gV (.slice A N c) (gMove G r q)) ∧ Below W.heap.size W w' := by
 obtain ⟨A', c', he, hc, hF⟩ := h
 injection he with e1 e2 e3
 subst e1 e2 e3
 exact prolepsisref07_Move.calls A c (toL G.L) G.row G.col r q _ _ W (Kd.F_now hF) hc (rMove_ok hk _ _ _ _)
theorem rgSame_any {W : World} {ok ok2 : Nat → Prop} {A B : Option Addr} {c N d M : Nat} {G G2 : GV} (hk : G.ok) (h : RD kRL W ok (.slice A N c) (toL G.L)) (h2 : RD kRL W ok2 (.slice B M d) (toL G2.L)) : Calls Try.prog 81 #[gV (.slice A N c) G, gV (.slice B M d) G2] W fun e w' => e = .returned (.bool (rSameV G G2)) ∧ Below W.heap.size W w' := by
 obtain ⟨A', c', he, hc, hF⟩ := h
 injection he with e1 e2 e3
 subst e1 e2 e3
 obtain ⟨B', d', he, hd, hF2⟩ := h2
 injection he with e1 e2 e3
 subst e1 e2 e3
 exact prolepsisref07_Same.calls 4000 A c (toL G.L) G.row G.col B d (toL G2.L) G2.row G2.col _ W (Kd.F_now hF) hc (Kd.F_now hF2) hd (rgSame_ok G G2 hk 4000 (by omega))
theorem RGL.rd {W : World} {ok : Nat → Prop} {b cap N : Nat} {L : List (List RC)} (h : RGL W ok (.slice (some ⟨b, 0, none⟩) N cap) L) (hs : L.length ≤ 512) : RD kRL W ok (.slice (some ⟨b, 0, none⟩) N cap) L := by
 obtain ⟨b0, cap0, he, hc0, -⟩ := id h
 injection he with e1 e2 e3
 subst e2
 refine ⟨_, cap, rfl, by omega, fun W' hW => ?_⟩
 have h' := h.step hW
 obtain ⟨b', cap', he, hcap, hb, -, hr⟩ := h'
 injection he with he1 he2 he3
 injection he1 with he1
 injection he1 with he1
 subst he1
 refine ⟨rfl, by omega, fun _ => ⟨_, rfl, fun j l hj => ?_⟩⟩
 obtain ⟨A, c, h1, h2, h3⟩ := hr j l hj
 refine ⟨[.slice A l.length c], rfl, ⟨A, c, rfl, h2, Kd.F_now h3⟩, fun i u hi => ?_⟩
 have hi0 : i = 0 := by have := (List.getElem?_eq_some_iff.1 hi).1; simp at this; omega
 subst hi0
 have hu : Value.slice A l.length c = u := by simpa using hi
 subst hu
 have e : (⟨b, 0, none⟩ : Addr).add (j * kRL.sz + 0) = ⟨b, j, none⟩ := by
  show (⟨b, 0, none⟩ : Addr).add (j * 1 + 0) = _
  rw [Nat.mul_one, Nat.add_zero]
  cases j <;> simp [Addr.add]
 rw [e]
 exact h1
theorem RGL.store2 {W : World} {ok : Nat → Prop} {L : List (List RC)} {b cap i n : Nat} (h : RGL W ok (.slice (some ⟨b, 0, none⟩) n cap) L) (hi : i < L.length) {A : Option Addr} {c : Nat} {l' : List RC} (hc : l'.length ≤ c) (hF : Kd.F kRC W (fun k => ok k ∧ k ≠ b) A l'.length l') :
 RGL (W.setCell ⟨b, i, none⟩ (.slice A l'.length c)) ok (.slice (some ⟨b, 0, none⟩) n cap) (L.set i l') := by
 obtain ⟨b', cap', he, -⟩ := id h
 injection he with _ e2 _
 subst e2
 exact h.store hi hc hF
theorem QW.far {w W W1 : World} {gs : List (Nat × Obj)} {b : Nat} (h : QW w W gs) (hg : W.grownBy W1 (some b)) (hn : ∀ p ∈ gs, p.1 ≠ b) (hb : w.heap.size ≤ b) : QW w W1 gs :=
 ⟨h.hb.grown hg h.hb.size (fun k hk => by injection hk with hk; rw [← hk]; exact hb), fun p hp => ⟨blk_grown (h.bx p hp).1 hg (fun e => by injection e with e; exact hn p hp e), (h.bx p hp).2⟩, h.nd⟩
theorem RD.wrg {α : Type} {d : Kd α} {W W1 : World} {ok : Nat → Prop} {v : Value} {l : List α} {g : Nat} (h : RD d W ok v l) (hg : W.grownBy W1 (some g)) (hk : ∀ k, ok k → k ≠ g) : RD d W1 ok v l := by
 obtain ⟨A, c, rfl, hc, hF⟩ := h
 exact ⟨A, c, rfl, hc, Kd.F_grown hF hg (fun k h e => by injection e with e; exact hk k h e)⟩
theorem rFitF_any (l : List CS) (m : Int) (hl : l.length ≤ 1000) (A : Option Addr) (c : Nat) (w : World) (ok : Nat → Prop) (hc : l.length ≤ c) (hF : Kd.F kRC w ok A l.length (l.map toR)) :
 Calls Try.prog 48 #[.slice A l.length c, .int .i64 m] w fun e w' => ∃ A' c', e = .returned (.slice A' (fitC l m).length c') ∧ (fitC l m).length ≤ c' ∧ Kd.F kRC w' (fun k => w.heap.size ≤ k) A' (fitC l m).length ((fitC l m).map toR) ∧ Below w.heap.size w w' := by
 have h := prolepsisref06_Fit.calls 2000 A c (l.map toR) m _ w (by rw [List.length_map]; exact Kd.F_now hF) (by rw [List.length_map]; exact hc) (rFit_ok l (by omega) m 2000 (by omega))
 rw [List.length_map] at h
 refine h.mono ?_
 rintro e w' ⟨v, rfl, hR, hb⟩
 obtain ⟨A', c', rfl, hc', hF'⟩ := RD.ofR hR
 rw [List.length_map] at hc' hF' ⊢
 exact ⟨A', c', rfl, hc', hF', hb⟩
theorem rgFit_any {G : GV} (hk : G.ok) {w : World} {ok : Nat → Prop} {A : Option Addr} {N c : Nat} (hR : RD kRL w ok (.slice A N c) (toL G.L)) (rows cols : Int) (hs : gSize rows cols = true) :
 Calls Try.prog 119 #[gV (.slice A N c) G, .int .i64 rows, .int .i64 cols] w (GPost w ok (gFit G rows cols)) := by
 have HR := aS hR.bound
 have HK := aS hk
 have HZ := aS hs
 unfold gSize at hs
 rw [Bool.and_eq_true, decide_eq_true_eq, decide_eq_true_eq] at hs
 obtain ⟨n, rfl⟩ : ∃ n : Nat, rows = (n : Int) := ⟨rows.toNat, by omega⟩
 obtain ⟨m, rfl⟩ : ∃ m : Nat, cols = (m : Int) := ⟨cols.toNat, by omega⟩
 have hNN : N = G.L.length := by obtain ⟨A', c', he, -, -⟩ := hR; injection he with e1 e2 e3; rw [e2, toL_len]
 obtain ⟨ad, rfl⟩ : ∃ ad, A = some ad := by
  obtain ⟨A', c', he, -, hF⟩ := hR
  injection he with e1 e2 e3
  subst e1
  obtain ⟨ad, cs, h1, -⟩ := Kd.F_get hF [] 0 (by omega) (by have := hk.r1; rw [toL_len]; omega)
  exact ⟨ad, h1⟩
 obtain ⟨k, hk'⟩ : ∃ k, min n N = k := ⟨_, rfl⟩
 have HNM := aS (show ((1 ≤ n ∧ n ≤ 512) ∧ (1 ≤ m ∧ m ≤ 512)) ∧ N = G.L.length ∧ N ≤ 512 ∧ k = min n N from ⟨by omega, hNN, by rw [hNN]; exact hk.r2, hk'.symm⟩)
 clear hR hk hs hNN hk'
 go_enter Try.func119, Try.ntmps119
 go_wp2_with (first | (refine bx 3 #[.slice (some ad) N c, .int .i64 G.row, .int .i64 G.col] 108 ?_; intro g4 hg_ w1 hx_ hb_; go_must (have Qw1 := aS (QW.box (o := .cells #[.slice (some ad) N c, .int .i64 G.row, .int .i64 G.col] 108 (0, 0)) (QW.new w) hx_ hg_ hb_)); clear hg_ hx_ hb_) | (refine bx 6 #[.slice none 0 0, .int .i64 0, .int .i64 0] 108 ?_; intro g8 hg_ w2 hx_ hb_; go_must (have Qw2 := aS (QW.box (o := .cells #[.slice none 0 0, .int .i64 0, .int .i64 0] 108 (0, 0)) Qw1.out hx_ hg_ hb_)); clear hg_ hx_ hb_) | (go_at_call 78; go_must (refine (rgNew_any (n : Int) (m : Int) HZ.out w2).mono ?_); rintro e w3 ⟨b7, cap7, N7, rfl, hN7, hG7, hb_⟩; obtain rfl : n = N7 := (hN7.trans (gNew_len n m)).symm; have Qw3 := aS (Qw2.out.below hb_); have G3 := aS (And.intro hG7 (And.intro (show w.heap.size ≤ w2.heap.size from Qw2.out.hb.size) hb_.size)); clear hN7 hG7 hb_) | (refine bx 7 #[.slice none 0 0, .int .i64 0, .int .i64 0] 108 ?_; intro g7 hg_ w4 hx_ hb_; have B4 := aS hb_; have G7 := aS (And.intro hg_ (show w2.heap.size ≤ w3.heap.size from G3.out.2.2)); go_must (have Qw4 := aS (QW.box (o := .cells #[.slice none 0 0, .int .i64 0, .int .i64 0] 108 (0, 0)) Qw3.out hx_ hg_ hb_)); clear hg_ hx_ hb_) | ((with_reducible refine gate_store (t := 108) (p := 7) rfl ?_); go_must (refine step_whole (.tmp 7) (.tmp 11) rfl rfl rfl rfl rfl (Qw4.out.bx (g7, gZ) (by simp)).1 rfl (by kernel_rfl) (by simp [Value.oneCell']; done) ?_); intro w5 hx_ hg_; go_must (have Qw5 := aS (And.intro (QW.store (l1 := []) (l2 := [(g8, gZ), (g4, gB (.slice (some ad) N c) G)]) (o' := gB (.slice (some ⟨b7, 0, none⟩) n cap7) (gNew (n : Int) (m : Int))) Qw4.out hx_ hg_) hg_)); clear hx_ hg_))
 have HS2 := aS (show w.heap.size ≤ w2.heap.size ∧ g4 < w2.heap.size ∧ g8 < w2.heap.size ∧ w2.heap.size ≤ g7 ∧ w3.heap.size ≤ g7 ∧ w2.heap.size ≤ w3.heap.size from by
  have h4 := blk_lt (Qw2.out.bx (g4, gB (.slice (some ad) N c) G) (by simp)).1
  have h8 := blk_lt (Qw2.out.bx (g8, gZ) (by simp)).1
  exact ⟨Qw2.out.hb.size, h4, h8, by have := G7.out.1; have := G7.out.2; omega, by have := G7.out.1; omega, G7.out.2⟩)
 have HG0 := aS (show RGL w5 (fun k => w2.heap.size ≤ k ∧ k ≠ g7) (.slice (some ⟨b7, 0, none⟩) n cap7) (toL (fitP G n m 0).L) by
  rw [fitP_zero]
  exact ((G3.out.1.step (fun k hk _ => B4.out.block k hk.2)).step (fun k hk _ => Qw5.out.2.block k (Nat.lt_of_lt_of_le hk.2 B4.out.size) (fun e => by injection e with e; have := HS2.out; omega))).mono (fun k hk => ⟨hk.1, by have := HS2.out; omega⟩))
 go_loopg [8] (k + 1) (fun kq v8 w' => ∃ (i : Nat), v8 = .int .i64 i ∧ Aside0 (kq = k - i + 1 ∧ i ≤ k) ∧ Aside0 (QW w w' [(g7, gB (.slice (some ⟨b7, 0, none⟩) n cap7) (gNew (n : Int) (m : Int))), (g8, gZ), (g4, gB (.slice (some ad) N c) G)] ∧ w5.heap.size ≤ w'.heap.size ∧ RGL w' (fun k => w2.heap.size ≤ k ∧ k ≠ g7) (.slice (some ⟨b7, 0, none⟩) n cap7) (toL (fitP G n m i).L)))
 case atStart => exact ⟨0, by go_num, ⟨by omega, by omega⟩, ⟨Qw5.out.1, Nat.le_refl _, HG0.out⟩⟩
 case round =>
  obtain ⟨i, rfl, HK2, HB⟩ := hrel
  obtain ⟨y0, y1, y2⟩ := gcells (HB.out.1.bx (g4, gB (.slice (some ad) N c) G) (by simp)).1
  have z0 := (blk_cell (HB.out.1.bx (g7, gB (.slice (some ⟨b7, 0, none⟩) n cap7) (gNew (n : Int) (m : Int))) (by simp)).1 0).trans (rfl : _ = some (Value.slice (some ⟨b7, 0, none⟩) n cap7))
  have z1 := (blk_cell (HB.out.1.bx (g7, gB (.slice (some ⟨b7, 0, none⟩) n cap7) (gNew (n : Int) (m : Int))) (by simp)).1 1).trans (rfl : _ = some (Value.int .i64 0))
  have z2 := (blk_cell (HB.out.1.bx (g7, gB (.slice (some ⟨b7, 0, none⟩) n cap7) (gNew (n : Int) (m : Int))) (by simp)).1 2).trans (rfl : _ = some (Value.int .i64 0))
  have hnm := HNM.out
  by_cases hi : i < k
  ·have hT1 : decide (i < n) = true := decide_eq_true (by omega)
   have hT2 : decide (i < N) = true := decide_eq_true (by omega)
   have hin : i < n := by omega
   have hiN : i < N := by omega
   have hw1 : wrap64 ((i : Int) + 1) = ((i + 1 : Nat) : Int) := by rw [w64 (by omega) (by omega)]; omega
   obtain ⟨l, hl⟩ : ∃ l, G.L[i]? = some l := ⟨_, List.getElem?_eq_getElem (by omega)⟩
   have hll : l.length ≤ 1000 := by have := HK.out.len l (List.mem_of_getElem? hl); have := HK.out.c2; omega
   obtain ⟨A1, c1, hcl, hcc, hF1⟩ := HR.out.row hl
   have r4 := pw_cell_below HB.out.1.hb hcl
   have HFF := aS (And.intro hcc (And.intro (Kd.F_below hF1 HB.out.1.hb) hll))
   obtain ⟨b', cap', he, hcap, hb', ⟨cs, hx'⟩, hr'⟩ := id HB.out.2.2
   injection he with he1 he2 he3
   injection he1 with he1
   injection he1 with he1
   subst he1
   obtain ⟨l1, hl1⟩ : ∃ l1, (toL (fitP G n m i).L)[i]? = some l1 := ⟨_, List.getElem?_eq_getElem (by rw [toL_len, fitP_len G m (by omega) (by omega)]; omega)⟩
   obtain ⟨A0, c0, k0, -, -⟩ := hr' i l1 hl1
   have HT := aS (And.intro (blk_lt hx') (And.intro k0 (And.intro (blk_frozen hx' i) hb')))
   have HSET := aS (And.intro (fitP_set (G := G) (cols := m) hin hl) (show i < (toL (fitP G n m i).L).length by rw [toL_len, fitP_len G m (by omega) (by omega)]; omega))
   clear hl hcl hcc hF1 hll hx' hr' hl1 k0 hcap hb' hnm he2 he3
   go_wp2
   refine start_ (n := 12) (S := fun w' => w'.cell? ⟨g7, 0, none⟩ = some (.slice (some ⟨b7, 0, none⟩) n cap7) ∧ w'.cell? ⟨g4, 0, none⟩ = some (.slice (some ad) N c) ∧ w'.cell? (ad.add i) = some (.slice A1 l.length c1)) (ds := [11]) (tb 12 0) (by kernel_rfl) rfl rfl ⟨z0, y0, r4⟩ (fun hHeld => ?_)
   refine tP 0 (some 24) (tb 12 1) ?_
   refine tP 2 (some 26) (tb 12 5) ?_
   refine tP 3 (some 27) (tb 12 13) ?_
   refine tP 5 (some 29) (tb 12 45) ?_
   refine tP 8 (some 32) (tb 12 301) ?_
   refine tK 1 (some 25) (tb 12 303) ?_
   refine tK 4 (some 28) (tb 12 319) ?_
   refine tP 6 (some 30) (tb 12 383) ?_
   refine tK 7 (some 31) (tb 12 511) ?_
   refine sO 9 (some 33) (tb 12 1023) (fun K hK => ?_)
   refine gO Try.func48 #[.slice A1 l.length c1, .int .i64 m] ?_
   with_reducible refine (rFitF_any l (m : Int) HFF.out.2.2 A1 c1 _ _ HFF.out.1 (Kd.F_below HFF.out.2.1 bE)).mono ?_
   rintro e w6 ⟨A9, c9, rfl, hc9, hF9, hb⟩
   refine ⟨_, rfl, ?_⟩
   have H6 := aS (And.intro (show Below wr.heap.size wr w6 from below_step bE hb) (And.intro hc9 (Kd.F_mono hF9 (ok' := fun k => wr.heap.size ≤ k) (fun k hk => hk))))
   have HY := aS (And.intro (pw_cell_below H6.out.1 z0) (And.intro (pw_cell_below H6.out.1 y0) (pw_cell_below H6.out.1 r4)))
   have hk6 := (H6.out.1.cell HT.out.1).trans HT.out.2.1
   have hz6 := (H6.out.1.frozen HT.out.1).trans HT.out.2.2.1
   clear hb hc9 hF9
   refine hK.out _ _ ⟨HY.out.1, HY.out.2.1, HY.out.2.2⟩ (fun hHeld => ?_)
   clear hK K
   refine nm ?_
   refine tP 10 (some 34) (tb 12 2047) ?_
   refine last_ (i := 11) (N := none) (tb 12 4095) rfl rfl (by kernel_rfl) (by decide) (fun K hK => ?_)
   refine skip_ (w1 := ?_) (by rfl) rfl ?_ ?_
   rotate_left
   ·go_simp
    rfl
   refine hK.out _ _ ?_
   clear hK K
   refine done_ (by kernel_rfl) ?_
   all_goals go_wp2
   all_goals go_roundg (k - (i + 1) + 1)
   all_goals first | (case measure => have := HK2.out; omega) | (case rel => exact ⟨i + 1, by go_num, ⟨rfl, by omega⟩, ⟨by
    have hq := HB.out.1.below H6.out.1
    have hs2 := HS2.out
    have hsz : ∀ (W : World) (p : Addr) (u : Value), (W.setCell p u).heap.size = W.heap.size := fun W p u => by simp [World.setCell]
    refine ⟨hq.far (grown_set (grown_refl _ _) i _) (fun p hp => ?_) (Nat.le_trans hs2.1 HT.out.2.2.2.1), by rw [hsz]; exact Nat.le_trans HB.out.2.1 H6.out.1.size, ?_⟩
    ·have h0 := HT.out.2.2.2
     simp only [List.mem_cons, List.not_mem_nil, or_false] at hp
     rcases hp with rfl | rfl | rfl
     ·exact fun e => h0.2 e.symm
     ·show g8 ≠ b7; omega
     ·show g4 ≠ b7; omega
    ·have h1 := (HB.out.2.2.step (W1 := w6) (fun k _ hlt => H6.out.1.block k hlt)).store2 (i := i) HSET.out.2 (l' := (fitC l (m : Int)).map toR) (A := A9) (c := c9) (by rw [List.length_map]; exact H6.out.2.1) (by rw [List.length_map]; exact Kd.F_mono H6.out.2.2 (ok' := fun k => (w2.heap.size ≤ k ∧ k ≠ g7) ∧ k ≠ b7) (fun k hk => ⟨⟨by have := HB.out.2.1; have := Qw5.out.2.size; have := B4.out.size; have := HS2.out; omega, by have := blk_lt (HB.out.1.bx (g7, gB (.slice (some ⟨b7, 0, none⟩) n cap7) (gNew (n : Int) (m : Int))) (by simp)).1; omega⟩, by have := HT.out.1; omega⟩))
     rw [List.length_map] at h1
     rw [← toL_set] at h1
     have h2 := HSET.out.1
     unfold gSet at h2
     rw [Int.toNat_natCast] at h2
     rw [← h2]
     exact h1⟩⟩)
  ·obtain rfl : k = i := by have := HK2.out; omega
   have HMV := aS (rgMove_any (fitP_ok HK.out hnm.1.1 hnm.1.2 (i := k) (by omega) (by omega)) (HB.out.2.2.rd (by rw [toL_len, fitP_len G m (by omega) (by omega)]; omega)) G.row G.col)
   have HAL := aS (fitP_all (G := G) (rows := n) (cols := m) k (by omega))
   by_cases hkn : k = n
   ·have hT1 : decide (k < n) = false := decide_eq_false (by omega)
    clear hi hkn hnm
    go_wp2_with (first | (go_at_call 117; go_must (refine (show Calls Try.prog 117 #[.agg #[.slice (some ⟨b7, 0, none⟩) n cap7, .int .i64 0, .int .i64 0], .int .i64 G.row, .int .i64 G.col] wr _ from HMV.out).mono ?_); rintro e w6 ⟨rfl, hb_⟩; rw [HAL.out]; have Qw6 := aS (HB.out.1.below hb_); have RD6 := aS ((HB.out.2.2.rd (by rw [toL_len, fitP_len G m (by have := HNM.out; omega) (by have := HNM.out; omega)]; have := HNM.out; omega)).below hb_); clear hb_) | ((with_reducible refine gate_store (t := 108) (p := 6) rfl ?_); go_must (refine step_whole (.tmp 6) (.tmp 40) rfl rfl rfl rfl rfl (Qw6.out.bx (g8, gZ) (by simp)).1 rfl (by kernel_rfl) (by simp [Value.oneCell']; done) ?_); intro w7 hx_ hg_; go_must (have Qw7 := aS (And.intro (QW.store (l1 := [(g7, gB (.slice (some ⟨b7, 0, none⟩) n cap7) (gNew (n : Int) (m : Int)))]) (l2 := [(g4, gB (.slice (some ad) N c) G)]) (o' := gB (.slice (some ⟨b7, 0, none⟩) n cap7) (gFit G (n : Int) (m : Int))) Qw6.out hx_ hg_) hg_)); clear hx_ hg_))
    refine bodyPost_ret (results_cell_row rfl _ _ g8 108 _ (0, 0) _ rfl (Qw7.out.1.bx (g8, gB (.slice (some ⟨b7, 0, none⟩) n cap7) (gFit G (n : Int) (m : Int))) (by simp)).1 Try.underlying108 rfl (by kernel_rfl)) rfl ?_
    exact ⟨_, rfl, by
     have h := (RD6.out.wrg Qw7.out.2 (fun k hk => by have := HS2.out; omega)).mono (ok' := fun k => ok k ∨ w.heap.size ≤ k) (fun k hk => .inr (by have := HS2.out; omega))
     have h2 := congrArg (fun g => toL g.L) HAL.out
     change toL (fitP G n m k).L = _ at h2
     rw [h2] at h
     exact h, Qw7.out.1.hb⟩
   ·have hT1 : decide (k < n) = true := decide_eq_true (by omega)
    have hT2 : decide (k < N) = false := decide_eq_false (by omega)
    clear hi hkn hnm
    go_wp2_with (first | (go_at_call 117; go_must (refine (show Calls Try.prog 117 #[.agg #[.slice (some ⟨b7, 0, none⟩) n cap7, .int .i64 0, .int .i64 0], .int .i64 G.row, .int .i64 G.col] wr _ from HMV.out).mono ?_); rintro e w6 ⟨rfl, hb_⟩; rw [HAL.out]; have Qw6 := aS (HB.out.1.below hb_); have RD6 := aS ((HB.out.2.2.rd (by rw [toL_len, fitP_len G m (by have := HNM.out; omega) (by have := HNM.out; omega)]; have := HNM.out; omega)).below hb_); clear hb_) | ((with_reducible refine gate_store (t := 108) (p := 6) rfl ?_); go_must (refine step_whole (.tmp 6) (.tmp 40) rfl rfl rfl rfl rfl (Qw6.out.bx (g8, gZ) (by simp)).1 rfl (by kernel_rfl) (by simp [Value.oneCell']; done) ?_); intro w7 hx_ hg_; go_must (have Qw7 := aS (And.intro (QW.store (l1 := [(g7, gB (.slice (some ⟨b7, 0, none⟩) n cap7) (gNew (n : Int) (m : Int)))]) (l2 := [(g4, gB (.slice (some ad) N c) G)]) (o' := gB (.slice (some ⟨b7, 0, none⟩) n cap7) (gFit G (n : Int) (m : Int))) Qw6.out hx_ hg_) hg_)); clear hx_ hg_))
    refine bodyPost_ret (results_cell_row rfl _ _ g8 108 _ (0, 0) _ rfl (Qw7.out.1.bx (g8, gB (.slice (some ⟨b7, 0, none⟩) n cap7) (gFit G (n : Int) (m : Int))) (by simp)).1 Try.underlying108 rfl (by kernel_rfl)) rfl ?_
    exact ⟨_, rfl, by
     have h := (RD6.out.wrg Qw7.out.2 (fun k hk => by have := HS2.out; omega)).mono (ok' := fun k => ok k ∨ w.heap.size ≤ k) (fun k hk => .inr (by have := HS2.out; omega))
     have h2 := congrArg (fun g => toL g.L) HAL.out
     change toL (fitP G n m k).L = _ at h2
     rw [h2] at h
     exact h, Qw7.out.1.hb⟩
end Go.Proofs.Ytblcmcdifgclcaa.Grd
namespace Go.Proofs.Ytblcmcdifgclcaa.Grd
open Go.RowKit Go.Proofs.Ytblcmcdifgclcaa Go.Proofs.Ytblcmcdifgclcaa.PGridSame Go.Proofs.YtblcmcdifgclcaaW.PrintWords Go.Proofs.YtblcmcdifgclcaaW.PrintLast Go.Proofs.YtblcmcdifgclcaaW.PrintMore
set_option linter.unusedVariables false
set_option linter.unusedSimpArgs false
set_option maxRecDepth 100000
set_option maxHeartbeats 4000000
structure QO (O0 : Nat → Prop) (O : Nat → Prop) (w W : World) (g : Nat) (G : GV) (gs : List (Nat × Obj)) : Prop where
 gr : GS O W g G
 wr : Wr O0 w W
 sub : ∀ k, O k → O0 k ∨ w.heap.size ≤ k
 bx : ∀ p ∈ gs, W.heap[p.1]? = some p.2 ∧ w.heap.size ≤ p.1 ∧ ¬ O p.1
 nd : (gs.map Prod.fst).Nodup
section
variable {O0 O : Nat → Prop} {w W W1 : World} {g b : Nat} {G G1 : GV} {gs l1 l2 : List (Nat × Obj)} {o o' : Obj}
theorem QO.new (h : GS O w g G) : QO O O w w g G [] := ⟨h, Wr.refl _ _, fun _ hk => .inl hk, fun _ h => absurd h List.not_mem_nil, List.nodup_nil⟩
theorem QO.fresh (h : Fresh w W g G) (O0 : Nat → Prop) : QO O0 (fun k => w.heap.size ≤ k ∧ k < W.heap.size) w W g G [] := ⟨h.1, Wr.of_below h.2 _, fun _ hk => .inr hk.1, fun _ h => absurd h List.not_mem_nil, List.nodup_nil⟩
theorem QO.below (h : QO O0 O w W g G gs) (hb : Below W.heap.size W W1) : QO O0 O w W1 g G gs :=
 ⟨h.gr.below hb, h.wr.then_ hb, h.sub, fun p hp => ⟨blk_below (h.bx p hp).1 hb, (h.bx p hp).2⟩, h.nd⟩
theorem QO.box (h : QO O0 O w W g G gs) (hx : W1.heap[b]? = some o) (hg : b = W.heap.size) (hb : Below W.heap.size W W1) : QO O0 O w W1 g G ((b, o) :: gs) := by
 have h' := h.below hb
 refine ⟨h'.gr, h'.wr, h'.sub, fun p hp => ?_, ?_⟩
 ·rcases List.mem_cons.1 hp with rfl | hp
  ·exact ⟨hx, by rw [hg]; exact h.wr.size, fun hk => by have := h.gr.ob _ hk; have : b < W.heap.size := this; omega⟩
  ·exact h'.bx p hp
 ·rw [List.map_cons, List.nodup_cons]
  refine ⟨fun hm => ?_, h.nd⟩
  obtain ⟨p, hp, he⟩ := List.mem_map.1 hm
  have := blk_lt (h.bx p hp).1
  omega
theorem QO.store (h : QO O0 O w W g G (l1 ++ (b, o) :: l2)) (hx : W1.heap[b]? = some o') (hg : W.grownBy W1 (some b)) : QO O0 O w W1 g G (l1 ++ (b, o') :: l2) := by
 have hnd := h.nd
 rw [List.map_append, List.map_cons] at hnd
 obtain ⟨-, hgw, hno⟩ := h.bx (b, o) (by simp)
 have hne : ∀ p, p ∈ l1 ∨ p ∈ l2 → p.1 ≠ b := by
  rw [List.nodup_append] at hnd
  obtain ⟨n1, n2, n3⟩ := hnd
  rw [List.nodup_cons] at n2
  intro p hp e
  rcases hp with hp | hp
  ·exact n3 p.1 (List.mem_map.2 ⟨p, hp, rfl⟩) b (by simp) e
  ·exact n2.1 (List.mem_map.2 ⟨p, hp, e⟩)
 refine ⟨h.gr.step hg.size (fun k hk => hg.block k (h.gr.ob k hk) (fun e => by injection e with e; rw [e] at hk; exact hno hk)), h.wr.grown hg (fun k hk => by injection hk with hk; rw [← hk]; exact .inr hgw), h.sub, fun p hp => ?_, by rw [List.map_append, List.map_cons]; exact hnd⟩
 rcases List.mem_append.1 hp with hp | hp
 ·exact ⟨blk_grown (h.bx p (List.mem_append_left _ hp)).1 hg (fun e => by injection e with e; exact hne p (.inl hp) e), (h.bx p (List.mem_append_left _ hp)).2⟩
 ·rcases List.mem_cons.1 hp with rfl | hp
  ·exact ⟨hx, hgw, hno⟩
  ·exact ⟨blk_grown (h.bx p (List.mem_append_right _ (List.mem_cons_of_mem _ hp))).1 hg (fun e => by injection e with e; exact hne p (.inr hp) e), (h.bx p (List.mem_append_right _ (List.mem_cons_of_mem _ hp))).2⟩
theorem QO.did (h : QO O0 O w W g G gs) (hd : Did O W W1 g G1) : ∃ O', (∀ k, O' k → O k ∨ W.heap.size ≤ k) ∧ QO O0 O' w W1 g G1 gs := by
 obtain ⟨O', h1, h2, h3⟩ := hd
 refine ⟨O', h2, h1, h.wr.trans h3 h.sub, fun k hk => (h2 k hk).elim (h.sub k) (fun e => .inr (Nat.le_trans h.wr.size e)), fun p hp => ?_, h.nd⟩
 obtain ⟨a1, a2, a3⟩ := h.bx p hp
 exact ⟨h3.blk a1 a3, a2, fun hk => (h2 _ hk).elim a3 (fun e => by have := blk_lt a1; omega)⟩
theorem ccells {x : CS} (h : W.heap[b]? = some (cellB x)) : W.cell? ⟨b, 0, none⟩ = some (.int .i32 x.f0) ∧ W.cell? ⟨b, 1, none⟩ = some (.int .i32 x.f1.f0) ∧ W.cell? ⟨b, 2, none⟩ = some (.int .i32 x.f1.f1) ∧ W.cell? ⟨b, 3, none⟩ = some (.int .u8 x.f2) ∧ W.cell? ⟨b, 4, none⟩ = some (.int .u8 x.f3.f0) ∧ W.cell? ⟨b, 5, none⟩ = some (.int .u8 x.f3.f1) ∧ W.cell? ⟨b, 6, none⟩ = some (.int .u8 x.f3.f2) :=
 ⟨(blk_cell h 0).trans rfl, (blk_cell h 1).trans rfl, (blk_cell h 2).trans rfl, (blk_cell h 3).trans rfl, (blk_cell h 4).trans rfl, (blk_cell h 5).trans rfl, (blk_cell h 6).trans rfl⟩
end
section
theorem eqPenG (d : Nat) (w : World) (x0 y0 : Int) (x1 y1 : Int) (x2 y2 : Int) :
 (Op.equalIn (d + 2) 24 (.agg #[.int .u8 x0, .int .u8 x1, .int .u8 x2]) (.agg #[.int .u8 y0, .int .u8 y1, .int .u8 y2])).run Try.prog w = .ok (x0 == y0 && (x1 == y1 && (x2 == y2))) w := by
 refine eqA_of Try.underlying24 (by kernel_rfl) ?_
 refine eqf_cons (by rfl) (by go_simp; rfl) (by go_simp; rfl) (by go_simp) ?_
 refine eqf_cons (by rfl) (by go_simp; rfl) (by go_simp; rfl) (by go_simp) ?_
 exact eqf_last (by rfl) (by go_simp; rfl) (by go_simp; rfl) (by go_simp)
theorem eqArrG (d : Nat) (w : World) (x0 y0 : Int) (x1 y1 : Int) :
 (Op.equalIn (d + 2) 22 (.agg #[.int .i32 x0, .int .i32 x1]) (.agg #[.int .i32 y0, .int .i32 y1])).run Try.prog w = .ok (x0 == y0 && (x1 == y1)) w :=
 eqArr2 d 22 21 .i32 Try.underlying22 Try.underlying21 (by kernel_rfl) x0 y0 x1 y1 w
theorem eqCellG (d : Nat) (w : World) (x0 y0 : Int) (x1 y1 : Int) (x2 y2 : Int) (x3 y3 : Int) (x4 y4 : Int) (x5 y5 : Int) (x6 y6 : Int) :
 (Op.equalIn (d + 3) 26 (.agg #[.int .i32 x0, .int .i32 x1, .int .i32 x2, .int .u8 x3, .int .u8 x4, .int .u8 x5, .int .u8 x6]) (.agg #[.int .i32 y0, .int .i32 y1, .int .i32 y2, .int .u8 y3, .int .u8 y4, .int .u8 y5, .int .u8 y6])).run Try.prog w = .ok (x0 == y0 && ((x1 == y1 && (x2 == y2)) && (x3 == y3 && ((x4 == y4 && (x5 == y5 && (x6 == y6))))))) w := by
 have hu24 := Try.underlying24
 have hu22 := Try.underlying22
 refine eqA_of Try.underlying26 (by kernel_rfl) ?_
 refine eqf_cons (by rfl) (by go_simp; rfl) (by go_simp; rfl) (by go_simp) ?_
 refine eqf_cons (by rfl) (by go_simp) (by go_simp) (eqArrG (d + 0) w _ _ _ _) ?_
 refine eqf_cons (by rfl) (by go_simp; rfl) (by go_simp; rfl) (by go_simp) ?_
 exact eqf_last (by rfl) (by go_simp) (by go_simp) (eqPenG (d + 0) w _ _ _ _ _ _)
end
end Go.Proofs.Ytblcmcdifgclcaa.Grd
namespace Go.Proofs.Ytblcmcdifgclcaa.Grd
open Go.RowKit Go.Proofs.Ytblcmcdifgclcaa Go.Proofs.Ytblcmcdifgclcaa.PGridSame Go.Proofs.YtblcmcdifgclcaaW.PrintWords Go.Proofs.YtblcmcdifgclcaaW.PrintLast Go.Proofs.YtblcmcdifgclcaaW.PrintMore
set_option linter.unusedVariables false
set_option linter.unusedSimpArgs false
set_option maxRecDepth 100000
set_option maxHeartbeats 4000000
abbrev kC : CS := ⟨97, ⟨0, 0⟩, 1, ⟨0, 0, 0⟩⟩
theorem kc_of : cell_Of.f 97 0 0 0 = some (97, 0, 0, 1, 0, 0, 0, true) := by kernel_rfl
theorem kc_size : gSize 2 3 = true := by decide +kernel
theorem kc_put : (gPut (gNew 2 3) 0 0 kC).2 = true := by decide +kernel
theorem kc_pen : penR 0 0 0 = true := by decide +kernel
theorem kc_at : gAt (gScroll (gPut (gNew 2 3) 0 0 kC).1 (-1) 0 0 0) 1 0 = (kC, true) := by decide +kernel
theorem kc_fsize : gSize 1 2 = true := by decide +kernel
theorem kc_rows : (gFit (gScroll (gPut (gNew 2 3) 0 0 kC).1 (-1) 0 0 0) 1 2).L.length = 1 := by decide +kernel
theorem kc_cols : (gFit (gScroll (gPut (gNew 2 3) 0 0 kC).1 (-1) 0 0 0) 1 2).cols = 2 := by decide +kernel
theorem kc_has : gHas (gFit (gScroll (gPut (gNew 2 3) 0 0 kC).1 (-1) 0 0 0) 1 2) 0 = true := by decide +kernel
theorem kc_used : line_Used.f 10 (gLn (gFit (gScroll (gPut (gNew 2 3) 0 0 kC).1 (-1) 0 0 0) 1 2) 0) = some 0 := by kernel_rfl
end Go.Proofs.Ytblcmcdifgclcaa.Grd
namespace Go.Proofs.Ytblcmcdifgclcaa.Grd
open Go.RowKit Go.Proofs.Ytblcmcdifgclcaa Go.Proofs.Ytblcmcdifgclcaa.PGridSame Go.Proofs.YtblcmcdifgclcaaW.PrintWords Go.Proofs.YtblcmcdifgclcaaW.PrintLast Go.Proofs.YtblcmcdifgclcaaW.PrintMore
set_option linter.unusedVariables false
set_option linter.unusedSimpArgs false
set_option maxRecDepth 100000
set_option maxHeartbeats 4000000
attribute [local go_sem] isSome_setCell max2_int min2_int max_two min_two
attribute [local go_sem high] eqCellG
theorem w32_kC : W32 kC := by simp [W32]
theorem known_any (w : World) : Calls Try.prog 64 #[] w fun e w' => e = .returned (.bool true) ∧ Below w.heap.size w w' := by
 obtain ⟨G0, hG0⟩ : ∃ G0, gNew 2 3 = G0 := ⟨_, rfl⟩
 have e1 := kc_put
 have e2 := kc_at
 have e3 := kc_rows
 have e4 := kc_cols
 have e5 := kc_has
 have e6 := kc_used
 rw [hG0] at e1 e2 e3 e4 e5 e6
 obtain ⟨p1, hp1⟩ : ∃ p, gPut G0 0 0 kC = p := ⟨_, rfl⟩
 rw [hp1] at e1 e2 e3 e4 e5 e6
 obtain ⟨G1, b1⟩ := p1
 obtain rfl : b1 = true := e1
 obtain ⟨G2, hG2⟩ : ∃ G2, gScroll G1 (-1) 0 0 0 = G2 := ⟨_, rfl⟩
 dsimp only at e2 e3 e4 e5 e6
 rw [hG2] at e2 e3 e4 e5 e6
 obtain ⟨G3, hG3⟩ : ∃ G3, gFit G2 1 2 = G3 := ⟨_, rfl⟩
 rw [hG3] at e3 e4 e5 e6
 obtain ⟨l3, hl3⟩ : ∃ l3, gLn G3 0 = l3 := ⟨_, rfl⟩
 rw [hl3] at e6
 have HG0 := aS hG0
 have HG1 := aS hp1
 have HG2 := aS hG2
 have HG3 := aS hG3
 have HL3 := aS hl3
 have HA := aS e2
 have HN := aS (And.intro e3 e4)
 have HU := aS (And.intro e5 e6)
 clear hG0 hp1 hG2 hG3 hl3 e2 e3 e4 e5 e6
 go_enter Try.func64, Try.ntmps64
 go_wp2_with (first | (go_at_call 76; go_must (refine (New_any 2 3 kc_size w).mono ?_); rintro e w1 ⟨g, rfl, hF⟩; rw [HG0.out] at hF; have Q1 := aS (QO.fresh hF (fun _ => False)); clear hF) | (go_at_call 14; go_must (refine (cell_Of.calls 97 0 0 0 _ _ _ _ _ _ _ _ w1 kc_of).mono ?_); rintro e w2 ⟨rfl, hb⟩; have Q2 := aS (Q1.out.below hb); clear hb) | (refine bx 3 #[.int .i32 0, .int .i32 0, .int .i32 0, .int .u8 0, .int .u8 0, .int .u8 0, .int .u8 0] 26 ?_; intro g3 hg_ w3 hx_ hb_; go_must (have Q3 := aS (QO.box (o := cellB zC) Q2.out hx_ hg_ hb_)); clear hg_ hx_ hb_) | ((with_reducible refine gate_store (t := 26) (p := 3) rfl ?_); go_must (refine step_whole (.tmp 3) (.tmp 23) rfl rfl rfl rfl rfl (Q3.out.bx (g3, cellB zC) (by simp)).1 rfl (by kernel_rfl) (by simp [Value.oneCell']; done) ?_); intro w4 hx_ hg_; go_must (have Q4 := aS (QO.store (l1 := []) (l2 := []) (o' := cellB kC) Q3.out hx_ hg_)); clear hx_ hg_; obtain ⟨c0, c1, c2, c3, c4, c5, c6⟩ := ccells (Q4.out.bx (g3, cellB kC) (by simp)).1) | (go_at_call 70; go_must (refine (Put_any Q4.out.gr 0 0 ⟨by omega, by omega⟩ kC w32_kC).mono ?_); rintro e w5 ⟨rfl, hd⟩; rw [HG1.out] at hd ⊢; obtain ⟨O5, -, q5⟩ := Q4.out.did hd; have Q5 := aS q5; clear hd q5 c0 c1 c2 c3 c4 c5 c6) | (go_at_call 61; go_must (refine (Scroll_any Q5.out.gr (-1) 0 0 0 ⟨by omega, by omega⟩ kc_pen).mono ?_); rintro e w6 ⟨rfl, hd⟩; rw [HG2.out] at hd; obtain ⟨O6, -, q6⟩ := Q5.out.did hd; have Q6 := aS q6; clear hd q6) | (go_at_call 62; go_must (refine (At_any Q6.out.gr 1 0).mono ?_); rintro e w7 ⟨rfl, hb⟩; rw [HA.out]; have Q7 := aS (Q6.out.below hb); clear hb) | (refine bx 6 #[.int .i32 0, .int .i32 0, .int .i32 0, .int .u8 0, .int .u8 0, .int .u8 0, .int .u8 0] 26 ?_; intro g6 hg_ w8 hx_ hb_; go_must (have Q8 := aS (QO.box (o := cellB zC) Q7.out hx_ hg_ hb_)); clear hg_ hx_ hb_) | ((with_reducible refine gate_store (t := 26) (p := 6) rfl ?_); go_must (refine step_whole (.tmp 6) (.tmp 34) rfl rfl rfl rfl rfl (Q8.out.bx (g6, cellB zC) (by simp)).1 rfl (by kernel_rfl) (by simp [Value.oneCell']; done) ?_); intro w9 hx_ hg_; go_must (have Q9 := aS (QO.store (l1 := []) (l2 := [(g3, cellB kC)]) (o' := cellB kC) Q8.out hx_ hg_)); clear hx_ hg_) | (go_at_call 63; go_must (refine (Fit_any Q9.out.gr 1 2 kc_fsize).mono ?_); rintro e w10 ⟨f, rfl, hF⟩; rw [HG3.out] at hF; have Q10 := aS (Q9.out.below hF.2); have HF := aS hF; clear hF; obtain ⟨c0, c1, c2, c3, c4, c5, c6⟩ := ccells (Q10.out.bx (g3, cellB kC) (by simp)).1; obtain ⟨d0, d1, d2, d3, d4, d5, d6⟩ := ccells (Q10.out.bx (g6, cellB kC) (by simp)).1) | (go_at_call 65; go_must (refine (Rows_any HF.out.1).mono ?_); rintro e w11 ⟨rfl, rfl⟩; rw [HN.out.1]) | (go_at_call 66; go_must (refine (Cols_any HF.out.1).mono ?_); rintro e w12 ⟨rfl, rfl⟩; rw [HN.out.2]) | (go_at_call 69; go_must (refine (Line_any HF.out.1 0).mono ?_); rintro e w13 ⟨v, rfl, hR, hb⟩; rw [if_pos HU.out.1, HL3.out] at hR; obtain ⟨A, cc, rfl, hc, -⟩ := Kd.R_reads hR; have HV := aS (And.intro (Kd.F_now (Kd.R_F hR)) hc); have Q13 := aS (Q10.out.below hb); clear hR hb hc) | (go_at_call 55; go_must (refine (line_Used.calls 10 A cc l3 0 _ HV.out.1 HV.out.2 HU.out.2).mono ?_); rintro e w14 ⟨rfl, hb⟩; have Q14 := aS (Q13.out.below hb); clear hb))
 all_goals go_ret
 all_goals exact ⟨rfl, Q14.out.wr.toBelow (Nat.le_refl _) (fun k hk => hk.elim)⟩
end Go.Proofs.Ytblcmcdifgclcaa.Grd
