/- GridPlays: what its proof leads to. No condition. -/
import Derived.Test.YtblcmcdifgclcaaGreatRows
import Derived.WalkKit
import Derived.WalkSpells
import Derived.WalkLawsBesides
import Derived.WalkSmall
import Derived.Deep.RegionHeld3
import Derived.Deep.RegionLaw
import Derived.BigQuiet
import Derived.Deep.QuietTactic
import Derived.Test.YtblcmcdifgclcaaGreatG6qGridPlays
import Derived.Test.YtblcmcdifgclcaaGreatG23qGridPlays
namespace Go.Proofs.YtblcmcdifgclcaaGreat.Grd
open Go.RowKit Go.Proofs.YtblcmcdifgclcaaGreat Go.Proofs.YtblcmcdifgclcaaGreat.PGridPlays Go.Proofs.YtblcmcdifgclcaaGreatW.PrintWords Go.Proofs.YtblcmcdifgclcaaGreatW.PrintLast Go.Proofs.YtblcmcdifgclcaaGreatW.PrintMore
set_option linter.unusedVariables false
set_option linter.unusedSimpArgs false
def RD {α : Type} (d : Kd α) (W : World) (ok : Nat → Prop) (v : Value) (l : List α) : Prop := ∃ A c, v = .slice A l.length c ∧ l.length ≤ c ∧ Kd.F d W ok A l.length l
section
variable {α : Type} {d : Kd α} {W W1 : World} {ok ok' : Nat → Prop} {v : Value} {l : List α}
theorem RD.below (h : RD d W ok v l) (hb : Below W.heap.size W W1) : RD d W1 ok v l := by
 obtain ⟨A, c, rfl, hc, hF⟩ := h
 exact ⟨A, c, rfl, hc, Kd.F_below hF hb⟩
theorem RD.mono (h : RD d W ok v l) (hk : ∀ k, ok k → ok' k) : RD d W ok' v l := by
 obtain ⟨A, c, rfl, hc, hF⟩ := h
 exact ⟨A, c, rfl, hc, Kd.F_mono hF hk⟩
theorem RD.ofR {e base : Nat} (h : d.R e W base ok v l) : RD d W (fun k => base ≤ k) v l := by
 obtain ⟨A, c, rfl, hc, -⟩ := Kd.R_reads h
 exact ⟨A, c, rfl, hc, Kd.F_mono (Kd.R_F (Kd.R_bound h)) (fun k hk => hk.2.1)⟩
theorem RD.ofN {e base : Nat} (h : Kd.N d e W base ok v l) : RD d W ok v l := by
 obtain ⟨A, c, rfl, hc, -⟩ := Kd.N_reads h
 exact ⟨A, c, rfl, hc, Kd.N_F h⟩
theorem RD.bound (h : RD d W ok v l) : RD d W (fun k => ok k ∧ k < W.heap.size) v l := by
 obtain ⟨A, c, rfl, hc, hF⟩ := h
 exact ⟨A, c, rfl, hc, Kd.F_bound hF⟩
end
abbrev kCl : Kd CS := k40
abbrev kRC : Kd RC := k52
abbrev kL : Kd (List CS) := Kd.slice 40 k40
abbrev kRL : Kd (List RC) := Kd.slice 52 k52
abbrev tCl : Nat := 40
abbrev tLn : Nat := 41
abbrev tRL : Nat := 72
structure Wr (O : Nat → Prop) (W W' : World) : Prop where
 os : W'.os = W.os
 tape : W'.tape = W.tape
 output : W'.output = W.output
 size : W.heap.size ≤ W'.heap.size
 block : ∀ k, k < W.heap.size → ¬ O k → W'.heap[k]? = W.heap[k]?
section
variable {O O1 O2 : Nat → Prop} {W W1 W2 : World}
theorem Wr.refl (O : Nat → Prop) (W : World) : Wr O W W := ⟨rfl, rfl, rfl, Nat.le_refl _, fun _ _ _ => rfl⟩
theorem Wr.of_below (h : Below W.heap.size W W1) (O : Nat → Prop) : Wr O W W1 := ⟨h.os, h.tape, h.output, h.size, fun k hk _ => h.block k hk⟩
theorem Wr.trans (h : Wr O W W1) (k : Wr O1 W1 W2) (hO : ∀ i, O1 i → O i ∨ W.heap.size ≤ i) : Wr O W W2 :=
 ⟨k.os.trans h.os, k.tape.trans h.tape, k.output.trans h.output, Nat.le_trans h.size k.size, fun i hi hn =>
  (k.block i (Nat.lt_of_lt_of_le hi h.size) (fun h1 => (hO i h1).elim hn (fun h2 => by omega))).trans (h.block i hi hn)⟩
theorem Wr.then_ (h : Wr O W W1) (hb : Below W1.heap.size W1 W2) : Wr O W W2 := h.trans (Wr.of_below hb (fun _ => False)) (fun _ hk => hk.elim)
theorem Wr.set (h : Wr O W W1) {p : Addr} (hp : O p.block ∨ W.heap.size ≤ p.block) (u : Value) : Wr O W (W1.setCell p u) :=
 h.trans (O1 := fun k => k = p.block) ⟨rfl, rfl, rfl, by simp [World.setCell], fun k _ hk => Below.heap_setCell _ _ _ _ hk⟩ (fun k hk => by rw [hk]; exact hp)
theorem Wr.grown {row : Option Nat} (h : Wr O W W1) (hg : W1.grownBy W2 row) (hr : ∀ k, row = some k → O k ∨ W.heap.size ≤ k) : Wr O W W2 :=
 h.trans (O1 := fun k => row = some k) ⟨hg.os, hg.tape, hg.output, hg.size, fun k hk hn => hg.block k hk (fun e => hn e.symm)⟩ (fun k hk => hr k hk)
theorem Wr.toBelow (h : Wr O W W1) {B : Nat} (hB : B ≤ W.heap.size) (hO : ∀ k, O k → B ≤ k) : Below B W W1 :=
 ⟨h.os, h.tape, h.output, h.size, fun k hk => h.block k (by omega) (fun h1 => by have := hO k h1; omega)⟩
theorem Wr.blk (h : Wr O W W1) {g : Nat} {o : Obj} (hx : W.heap[g]? = some o) (hn : ¬ O g) : W1.heap[g]? = some o := (h.block g (blk_lt hx) hn).trans hx
theorem RD.wr {α : Type} {d : Kd α} {v : Value} {l : List α} {ok : Nat → Prop} (h : RD d W ok v l) (hw : Wr O W W1) (hk : ∀ k, ok k → ¬ O k) : RD d W1 ok v l := by
 obtain ⟨A, c, rfl, hc, hF⟩ := h
 exact ⟨A, c, rfl, hc, Kd.F_step hF (fun k ho hlt => hw.block k hlt (hk k ho))⟩
end
def GL (W : World) (ok : Nat → Prop) (v : Value) (L : List (List CS)) : Prop :=
 ∃ b cap, v = .slice (some ⟨b, 0, none⟩) L.length cap ∧ L.length ≤ cap ∧ ok b ∧ (∃ cs, W.heap[b]? = some (.cells cs tLn (0, 0))) ∧
  ∀ (j : Nat) (l : List CS), L[j]? = some l → ∃ A c, W.cell? ⟨b, j, none⟩ = some (.slice A l.length c) ∧ l.length ≤ c ∧ Kd.F kCl W (fun k => ok k ∧ k ≠ b) A l.length l
section
variable {W W1 : World} {ok ok' : Nat → Prop} {v : Value} {L : List (List CS)}
theorem GL.step (h : GL W ok v L) (hm : ∀ k, ok k → k < W.heap.size → W1.heap[k]? = W.heap[k]?) : GL W1 ok v L := by
 obtain ⟨b, cap, rfl, hc, hb, ⟨cs, hx⟩, hr⟩ := h
 have hbl := hm b hb (blk_lt hx)
 refine ⟨b, cap, rfl, hc, hb, ⟨cs, hbl.trans hx⟩, fun j l hj => ?_⟩
 obtain ⟨A, c, h1, h2, h3⟩ := hr j l hj
 exact ⟨A, c, by rw [← h1]; simp [World.cell?, hbl], h2, Kd.F_step h3 (fun k hk hlt => hm k hk.1 hlt)⟩
theorem GL.mono (h : GL W ok v L) (hk : ∀ k, ok k → ok' k) : GL W ok' v L := by
 obtain ⟨b, cap, rfl, hc, hb, hx, hr⟩ := h
 refine ⟨b, cap, rfl, hc, hk b hb, hx, fun j l hj => ?_⟩
 obtain ⟨A, c, h1, h2, h3⟩ := hr j l hj
 exact ⟨A, c, h1, h2, Kd.F_mono h3 (fun k h => ⟨hk k h.1, h.2⟩)⟩
theorem GL.ofN {base : Nat} (hp : 0 < L.length) (h : Kd.N kL tLn W base ok v L) : GL W ok v L := by
 obtain ⟨g, cap, rfl, -, hlt, cs, hx⟩ := Kd.N_form h hp
 refine ⟨g, cap, rfl, (Kd.N_reads' h).2.1, h.1 g rfl, ⟨cs, hx⟩, fun j l hj => ?_⟩
 have hjl := (List.getElem?_eq_some_iff.1 hj).1
 obtain ⟨c, hcl, hK, hcc, -⟩ := Kd.N_elem h [] (j : Int) (by omega) (by omega)
 rw [Int.toNat_natCast, List.getD_eq_getElem?_getD, hj, Option.getD_some] at hK
 obtain ⟨A, c', rfl, hc', hF⟩ := Kd.FK_slice_open hK
 have := hcc 0 _ rfl
 rw [Int.toNat_natCast, show j * kL.sz + 0 = j by show j * 1 + 0 = j; omega] at this
 exact ⟨A, c', this, hc', hF⟩
theorem GL.store {b cap i : Nat} (h : GL W ok (.slice (some ⟨b, 0, none⟩) L.length cap) L) (hi : i < L.length) {A : Option Addr} {c : Nat} {l' : List CS} (hc : l'.length ≤ c) (hF : Kd.F kCl W (fun k => ok k ∧ k ≠ b) A l'.length l') :
 GL (W.setCell ⟨b, i, none⟩ (.slice A l'.length c)) ok (.slice (some ⟨b, 0, none⟩) L.length cap) (L.set i l') := by
 obtain ⟨b', cap', he, hcap, hb, ⟨cs, hx⟩, hr⟩ := h
 injection he with he1 he2 he3
 injection he1 with he1
 injection he1 with he1
 subst he1; subst he3
 have hxs := blk_set hx i (.slice A l'.length c)
 have hsz : i < cs.size := by
  obtain ⟨A0, c0, h1, -⟩ := hr i _ (List.getElem?_eq_getElem hi)
  rw [blk_cell hx] at h1
  exact (Array.getElem?_eq_some_iff.1 h1).1
 refine ⟨b, cap, by rw [List.length_set], by rw [List.length_set]; exact hcap, hb, ⟨_, hxs⟩, fun j l hj => ?_⟩
 rw [List.getElem?_set] at hj
 split at hj
 ·rename_i hij
  subst hij
  (try rw [if_pos hi] at hj)
  injection hj with hj
  subst hj
  refine ⟨A, c, by rw [blk_cell hxs]; simp [hsz], hc, Kd.F_far hF (fun k hk => hk.2) _⟩
 ·rename_i hij
  obtain ⟨A0, c0, h1, h2, h3⟩ := hr j l hj
  refine ⟨A0, c0, ?_, h2, Kd.F_far h3 (fun k hk => hk.2) _⟩
  rw [blk_cell hx] at h1
  rw [blk_cell hxs, Array.getElem?_setIfInBounds_ne hij]
  exact h1
end
structure GS (O : Nat → Prop) (W : World) (g : Nat) (G : GV) : Prop where
 og : O g
 ob : ∀ k, O k → k < W.heap.size
 ok : G.ok
 ex : ∃ v, W.heap[g]? = some (.cells #[.int .i64 G.row, .int .i64 G.col, v, .int .i64 G.cols] 66 (0, 0)) ∧ GL W (fun k => O k ∧ k ≠ g) v G.L
def Did (O : Nat → Prop) (W W' : World) (g : Nat) (G : GV) : Prop := ∃ O', GS O' W' g G ∧ (∀ k, O' k → O k ∨ W.heap.size ≤ k) ∧ Wr O W W'
section
variable {O O1 : Nat → Prop} {W W1 W2 : World} {g : Nat} {G : GV}
theorem GS.step (h : GS O W g G) (hs : W.heap.size ≤ W1.heap.size) (hm : ∀ k, O k → W1.heap[k]? = W.heap[k]?) : GS O W1 g G := by
 obtain ⟨v, hx, hL⟩ := h.ex
 exact ⟨h.og, fun k hk => Nat.lt_of_lt_of_le (h.ob k hk) hs, h.ok, v, (hm g h.og).trans hx, hL.step (fun k hk _ => hm k hk.1)⟩
theorem GS.below (h : GS O W g G) (hb : Below W.heap.size W W1) : GS O W1 g G := h.step hb.size (fun k hk => hb.block k (h.ob k hk))
theorem GS.wr (h : GS O W g G) (hw : Wr O1 W W1) (hk : ∀ k, O k → ¬ O1 k) : GS O W1 g G := h.step hw.size (fun k ho => hw.block k (h.ob k ho) (hk k ho))
theorem GS.lt (h : GS O W g G) : g < W.heap.size := h.ob g h.og
theorem Did.below (h : Did O W W1 g G) (hb : Below W1.heap.size W1 W2) : Did O W W2 g G := by
 obtain ⟨O', h1, h2, h3⟩ := h
 exact ⟨O', h1.below hb, h2, h3.then_ hb⟩
theorem GS.same (h : GS O W g G) : Did O W W g G := ⟨O, h, fun _ hk => .inl hk, Wr.refl _ _⟩
theorem GS.open_ (h : GS O W g G) : ∃ b cap, O b ∧ b ≠ g ∧ G.L.length ≤ cap ∧ W.heap[g]? = some (.cells #[.int .i64 G.row, .int .i64 G.col, .slice (some ⟨b, 0, none⟩) G.L.length cap, .int .i64 G.cols] 66 (0, 0)) ∧
 GL W (fun k => O k ∧ k ≠ g) (.slice (some ⟨b, 0, none⟩) G.L.length cap) G.L ∧ ∀ (j : Nat) (l : List CS), G.L[j]? = some l → ∃ A c, W.cell? ⟨b, j, none⟩ = some (.slice A l.length c) ∧ W.frozen? ⟨b, j, none⟩ = false ∧ l.length ≤ c ∧ Kd.F kCl W (fun k => (O k ∧ k ≠ g) ∧ k ≠ b) A l.length l := by
 obtain ⟨v, hx, hL⟩ := h.ex
 obtain ⟨b, cap, rfl, hc, hb, ⟨cs, hy⟩, hr⟩ := id hL
 refine ⟨b, cap, hb.1, hb.2, hc, hx, hL, fun j l hj => ?_⟩
 obtain ⟨A, c, h1, h2, h3⟩ := hr j l hj
 exact ⟨A, c, h1, blk_frozen hy j, h2, h3⟩
end
end Go.Proofs.YtblcmcdifgclcaaGreat.Grd
namespace Go.Proofs.YtblcmcdifgclcaaGreat.Grd
open Go.RowKit Go.Proofs.YtblcmcdifgclcaaGreat Go.Proofs.YtblcmcdifgclcaaGreat.PGridPlays Go.Proofs.YtblcmcdifgclcaaGreatW.PrintWords Go.Proofs.YtblcmcdifgclcaaGreatW.PrintLast Go.Proofs.YtblcmcdifgclcaaGreatW.PrintMore
set_option linter.unusedVariables false
set_option linter.unusedSimpArgs false
set_option maxRecDepth 100000
set_option maxHeartbeats 4000000
section
variable {O : Nat → Prop} {W : World} {g : Nat} {G : GV}
theorem GS.cells (h : GS O W g G) : ∃ b cap, W.cell? ⟨g, 0, none⟩ = some (.int .i64 G.row) ∧ W.cell? ⟨g, 1, none⟩ = some (.int .i64 G.col) ∧ W.cell? ⟨g, 2, none⟩ = some (.slice (some ⟨b, 0, none⟩) G.L.length cap) ∧ W.cell? ⟨g, 3, none⟩ = some (.int .i64 G.cols) ∧ G.L.length ≤ cap ∧ O b ∧ b ≠ g := by
 obtain ⟨b, cap, hb, hn, hc, hx, -⟩ := h.open_
 exact ⟨b, cap, (blk_cell hx 0).trans rfl, (blk_cell hx 1).trans rfl, (blk_cell hx 2).trans rfl, (blk_cell hx 3).trans rfl, hc, hb, hn⟩
theorem has_any (h : GS O W g G) (r : Int) : Calls Tryz.prog 51 #[.pointer (some ⟨g, 0, none⟩), .int .i64 r] W fun e w' => e = .returned (.bool (gHas G r)) ∧ w' = W := by
 obtain ⟨b, cap, -, -, h2, -⟩ := h.cells
 clear h
 unfold gHas
 by_cases h0 : 0 ≤ r
 ·have h0' : decide (0 ≤ r) = true := decide_eq_true h0
  go_enter Tryz.func51, Tryz.ntmps51
  go_wp2
  all_goals go_ret
  all_goals exact ⟨by (try rw [h0']); rfl, rfl⟩
 ·have h0' : decide (0 ≤ r) = false := decide_eq_false h0
  go_enter Tryz.func51, Tryz.ntmps51
  go_wp2
  all_goals go_ret
  all_goals exact ⟨by (try rw [h0']); rfl, rfl⟩
theorem Rows_any (h : GS O W g G) : Calls Tryz.prog 26 #[.pointer (some ⟨g, 0, none⟩)] W fun e w' => e = .returned (.int .i64 G.L.length) ∧ w' = W := by
 obtain ⟨b, cap, -, -, h2, -⟩ := h.cells
 clear h
 go_enter Tryz.func26, Tryz.ntmps26
 go_wp2
 all_goals go_ret
 all_goals exact ⟨rfl, rfl⟩
theorem Cols_any (h : GS O W g G) : Calls Tryz.prog 27 #[.pointer (some ⟨g, 0, none⟩)] W fun e w' => e = .returned (.int .i64 G.cols) ∧ w' = W := by
 obtain ⟨b, cap, -, -, -, h3, -⟩ := h.cells
 clear h
 go_enter Tryz.func27, Tryz.ntmps27
 go_wp2
 all_goals go_ret
 all_goals exact ⟨rfl, rfl⟩
theorem Row_any (h : GS O W g G) : Calls Tryz.prog 79 #[.pointer (some ⟨g, 0, none⟩)] W fun e w' => e = .returned (.int .i64 G.row) ∧ w' = W := by
 obtain ⟨b, cap, h0, -, -, -, -⟩ := h.cells
 clear h
 go_enter Tryz.func79, Tryz.ntmps79
 go_wp2
 all_goals go_ret
 all_goals exact ⟨rfl, rfl⟩
theorem Col_any (h : GS O W g G) : Calls Tryz.prog 80 #[.pointer (some ⟨g, 0, none⟩)] W fun e w' => e = .returned (.int .i64 G.col) ∧ w' = W := by
 obtain ⟨b, cap, -, h1, -, -, -⟩ := h.cells
 clear h
 go_enter Tryz.func80, Tryz.ntmps80
 go_wp2
 all_goals go_ret
 all_goals exact ⟨rfl, rfl⟩
theorem has_row {r : Int} (hr : gHas G r = true) : ∃ n : Nat, r = (n : Int) ∧ n < G.L.length ∧ G.L[n]? = some (gLn G r) := by
 simp only [gHas, Bool.and_eq_true, decide_eq_true_eq] at hr
 refine ⟨r.toNat, by omega, by omega, ?_⟩
 unfold gLn
 rw [List.getD_eq_getElem?_getD, List.getElem?_eq_getElem (by omega), Option.getD_some]
theorem Line_any (h : GS O W g G) (r : Int) : Calls Tryz.prog 16 #[.pointer (some ⟨g, 0, none⟩), .int .i64 r] W fun e w' => ∃ v, e = .returned v ∧ Kd.R kCl tCl w' W.heap.size (fun _ => True) v (if gHas G r = true then gLn G r else []) ∧ Below W.heap.size W w' := by
 obtain ⟨b, cap, -, -, hcap, hx, -, hrow⟩ := h.open_
 have h2 := (blk_cell hx 2).trans rfl
 have HS := aS h
 by_cases hr : gHas G r = true
 ·obtain ⟨n, rfl, hn, hg⟩ := has_row hr
  obtain ⟨A, c, hcl, -, hc, hF⟩ := hrow n _ hg
  have hlen := h.ok.len _ (gLn_mem hr)
  have HC := aS (And.intro (Kd.F_now hF) (And.intro hc (show (gLn G (n : Int)).length < 8796093022208 by have := h.ok.c2; omega)))
  rw [if_pos hr]
  obtain ⟨l, hl⟩ : ∃ l, gLn G (n : Int) = l := ⟨_, rfl⟩
  rw [hl] at hcl HC ⊢
  have HR := aS hr
  clear h hx hrow hr hg hc hF hlen hl
  go_enter Tryz.func16, Tryz.ntmps16
  go_wp2_with (first | (go_at_call 51; refine (has_any HS.out (n : Int)).mono ?_; rintro e w1 ⟨rfl, rfl⟩; rw [HR.out]) | (go_at_call 52; refine (cell_Cell_52.calls A c l l _ HC.out.1 HC.out.2.1 (by unfold cell_Cell_52.f; rw [if_pos HC.out.2.2])).mono ?_; rintro e w2 ⟨v, rfl, hR, hb⟩; have H2 := aS (And.intro hR hb); clear hR hb))
  all_goals go_ret
  all_goals exact ⟨_, rfl, H2.out.1, H2.out.2⟩
 ·rw [if_neg hr]
  have HR := aS (Bool.eq_false_iff.2 hr)
  clear h hx hrow hr
  go_enter Tryz.func16, Tryz.ntmps16
  go_wp2_with (first | (go_at_call 51; refine (has_any HS.out r).mono ?_; rintro e w1 ⟨rfl, rfl⟩; rw [HR.out]))
  all_goals go_ret
  all_goals exact ⟨_, rfl, Kd.R_nil _ _ _ _ _, Below.refl _ _⟩
end
end Go.Proofs.YtblcmcdifgclcaaGreat.Grd
