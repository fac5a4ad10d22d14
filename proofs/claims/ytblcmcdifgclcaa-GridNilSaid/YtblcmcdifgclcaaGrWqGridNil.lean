/- GridNil: what its proof leads to. No condition. -/
import Derived.Test.YtblcmcdifgclcaaGrPqGridNil
import Derived.Test.YtblcmcdifgclcaaRows
import Derived.Test.YtblcmcdifgclcaaLitqGridNil
import Derived.Test.YtblcmcdifgclcaaCutsqGridNil
import Derived.Test.YtblcmcdifgclcaaWMoreqGridNil
import Derived.Lib.SlBytesConst
import Derived.BigFrame
import Derived.Test.YtblcmcdifgclcaaWNEvqGridNil
import Derived.WalkKit
import Derived.WalkSpells
import Derived.WalkLawsBesides
import Derived.WalkSmall
import Derived.Deep.RegionHeld3
import Derived.Deep.RegionLaw
import Derived.BigQuiet
import Derived.Deep.QuietTactic
namespace Go.Proofs.Ytblcmcdifgclcaa.Grd
open Go.RowKit Go.Proofs.Ytblcmcdifgclcaa Go.Proofs.Ytblcmcdifgclcaa.PGridSame Go.Proofs.YtblcmcdifgclcaaW.PrintWords Go.Proofs.YtblcmcdifgclcaaW.PrintLast Go.Proofs.YtblcmcdifgclcaaW.PrintMore
set_option linter.unusedVariables false
set_option linter.unusedSimpArgs false
/-- What is read. -/
def RD {α : Type} (d : Kd α) (W : World) (ok : Nat → Prop) (v : Value) (l : List α) : Prop := ∃ A c, v = .slice A l.length c ∧ l.length ≤ c ∧ Kd.F d W ok A l.length l
section
variable {α : Type} {d : Kd α} {W W1 : World} {ok ok' : Nat → Prop} {v : Value} {l : List α}
end
abbrev kCl : Kd CS := k26
abbrev kRC : Kd RC := k32
abbrev kL : Kd (List CS) := Kd.slice 26 k26
abbrev kRL : Kd (List RC) := Kd.slice 32 k32
abbrev tCl : Nat := 26
abbrev tLn : Nat := 58
abbrev tRL : Nat := 67
/-- What is written lies in O, or is new. -/
structure Wr (O : Nat → Prop) (W W' : World) : Prop where
  os : W'.os = W.os
  tape : W'.tape = W.tape
  output : W'.output = W.output
  size : W.heap.size ≤ W'.heap.size
  block : ∀ k, k < W.heap.size → ¬ O k → W'.heap[k]? = W.heap[k]?
section
variable {O O1 O2 : Nat → Prop} {W W1 W2 : World}
theorem Wr.refl (O : Nat → Prop) (W : World) : Wr O W W := ⟨rfl, rfl, rfl, Nat.le_refl _, fun _ _ _ => rfl⟩
theorem Wr.of_below (h : Below W.heap.size W W1) (O : Nat → Prop) : Wr O W W1 := ⟨h.os, h.tape, h.output, h.size, fun k hk _ => h.block k hk⟩
theorem Wr.trans (h : Wr O W W1) (k : Wr O1 W1 W2) (hO : ∀ i, O1 i → O i ∨ W.heap.size ≤ i) : Wr O W W2 :=
  ⟨k.os.trans h.os, k.tape.trans h.tape, k.output.trans h.output, Nat.le_trans h.size k.size, fun i hi hn =>
    (k.block i (Nat.lt_of_lt_of_le hi h.size) (fun h1 => (hO i h1).elim hn (fun h2 => by omega))).trans (h.block i hi hn)⟩
theorem Wr.then_ (h : Wr O W W1) (hb : Below W1.heap.size W1 W2) : Wr O W W2 := h.trans (Wr.of_below hb (fun _ => False)) (fun _ hk => hk.elim)
theorem Wr.set (h : Wr O W W1) {p : Addr} (hp : O p.block ∨ W.heap.size ≤ p.block) (u : Value) : Wr O W (W1.setCell p u) :=
  h.trans (O1 := fun k => k = p.block) ⟨rfl, rfl, rfl, by simp [World.setCell], fun k _ hk => Below.heap_setCell _ _ _ _ hk⟩ (fun k hk => by rw [hk]; exact hp)
theorem Wr.grown {row : Option Nat} (h : Wr O W W1) (hg : W1.grownBy W2 row) (hr : ∀ k, row = some k → O k ∨ W.heap.size ≤ k) : Wr O W W2 :=
  h.trans (O1 := fun k => row = some k) ⟨hg.os, hg.tape, hg.output, hg.size, fun k hk hn => hg.block k hk (fun e => hn e.symm)⟩ (fun k hk => hr k hk)
theorem Wr.toBelow (h : Wr O W W1) {B : Nat} (hB : B ≤ W.heap.size) (hO : ∀ k, O k → B ≤ k) : Below B W W1 :=
  ⟨h.os, h.tape, h.output, h.size, fun k hk => h.block k (by omega) (fun h1 => by have := hO k h1; omega)⟩
theorem Wr.blk (h : Wr O W W1) {g : Nat} {o : Obj} (hx : W.heap[g]? = some o) (hn : ¬ O g) : W1.heap[g]? = some o := (h.block g (blk_lt hx) hn).trans hx
end
/-- The rows of a grid: a block of slices, whose cells are only read. -/
def GL (W : World) (ok : Nat → Prop) (v : Value) (L : List (List CS)) : Prop :=
  ∃ b cap, v = .slice (some ⟨b, 0, none⟩) L.length cap ∧ L.length ≤ cap ∧ ok b ∧ (∃ cs, W.heap[b]? = some (.cells cs tLn (0, 0))) ∧
    ∀ (j : Nat) (l : List CS), L[j]? = some l → ∃ A c, W.cell? ⟨b, j, none⟩ = some (.slice A l.length c) ∧ l.length ≤ c ∧ Kd.F kCl W (fun k => ok k ∧ k ≠ b) A l.length l
section
variable {W W1 : World} {ok ok' : Nat → Prop} {v : Value} {L : List (List CS)}
theorem GL.step (h : GL W ok v L) (hm : ∀ k, ok k → k < W.heap.size → W1.heap[k]? = W.heap[k]?) : GL W1 ok v L := by
  obtain ⟨b, cap, rfl, hc, hb, ⟨cs, hx⟩, hr⟩ := h
  have hbl := hm b hb (blk_lt hx)
  refine ⟨b, cap, rfl, hc, hb, ⟨cs, hbl.trans hx⟩, fun j l hj => ?_⟩
  obtain ⟨A, c, h1, h2, h3⟩ := hr j l hj
  exact ⟨A, c, by rw [← h1]; simp [World.cell?, hbl], h2, Kd.F_step h3 (fun k hk hlt => hm k hk.1 hlt)⟩
theorem GL.mono (h : GL W ok v L) (hk : ∀ k, ok k → ok' k) : GL W ok' v L := by
  obtain ⟨b, cap, rfl, hc, hb, hx, hr⟩ := h
  refine ⟨b, cap, rfl, hc, hk b hb, hx, fun j l hj => ?_⟩
  obtain ⟨A, c, h1, h2, h3⟩ := hr j l hj
  exact ⟨A, c, h1, h2, Kd.F_mono h3 (fun k h => ⟨hk k h.1, h.2⟩)⟩
theorem GL.ofN {base : Nat} (hp : 0 < L.length) (h : Kd.N kL tLn W base ok v L) : GL W ok v L := by
  obtain ⟨g, cap, rfl, -, hlt, cs, hx⟩ := Kd.N_form h hp
  refine ⟨g, cap, rfl, (Kd.N_reads' h).2.1, h.1 g rfl, ⟨cs, hx⟩, fun j l hj => ?_⟩
  have hjl := (List.getElem?_eq_some_iff.1 hj).1
  obtain ⟨c, hcl, hK, hcc, -⟩ := Kd.N_elem h [] (j : Int) (by omega) (by omega)
  rw [Int.toNat_natCast, List.getD_eq_getElem?_getD, hj, Option.getD_some] at hK
  obtain ⟨A, c', rfl, hc', hF⟩ := Kd.FK_slice_open hK
  have := hcc 0 _ rfl
  rw [Int.toNat_natCast, show j * kL.sz + 0 = j by show j * 1 + 0 = j; omega] at this
  exact ⟨A, c', this, hc', hF⟩
/-- A row is another. -/
theorem GL.store {b cap i : Nat} (h : GL W ok (.slice (some ⟨b, 0, none⟩) L.length cap) L) (hi : i < L.length) {A : Option Addr} {c : Nat} {l' : List CS} (hc : l'.length ≤ c) (hF : Kd.F kCl W (fun k => ok k ∧ k ≠ b) A l'.length l') :
    GL (W.setCell ⟨b, i, none⟩ (.slice A l'.length c)) ok (.slice (some ⟨b, 0, none⟩) L.length cap) (L.set i l') := by
  obtain ⟨b', cap', he, hcap, hb, ⟨cs, hx⟩, hr⟩ := h
  injection he with he1 he2 he3
  injection he1 with he1
  injection he1 with he1
  subst he1; subst he3
  have hxs := blk_set hx i (.slice A l'.length c)
  have hsz : i < cs.size := by
    obtain ⟨A0, c0, h1, -⟩ := hr i _ (List.getElem?_eq_getElem hi)
    rw [blk_cell hx] at h1
    exact (Array.getElem?_eq_some_iff.1 h1).1
  refine ⟨b, cap, by rw [List.length_set], by rw [List.length_set]; exact hcap, hb, ⟨_, hxs⟩, fun j l hj => ?_⟩
  rw [List.getElem?_set] at hj
  split at hj
  · rename_i hij
    subst hij
    (try rw [if_pos hi] at hj)
    injection hj with hj
    subst hj
    refine ⟨A, c, by rw [blk_cell hxs]; simp [hsz], hc, Kd.F_far hF (fun k hk => hk.2) _⟩
  · rename_i hij
    obtain ⟨A0, c0, h1, h2, h3⟩ := hr j l hj
    refine ⟨A0, c0, ?_, h2, Kd.F_far h3 (fun k hk => hk.2) _⟩
    rw [blk_cell hx] at h1
    rw [blk_cell hxs, Array.getElem?_setIfInBounds_ne hij]
    exact h1
end
/-- A grid stands at g; all that is its lies in O. -/
structure GS (O : Nat → Prop) (W : World) (g : Nat) (G : GV) : Prop where
  og : O g
  ob : ∀ k, O k → k < W.heap.size
  ok : G.ok
  ex : ∃ v, W.heap[g]? = some (.cells #[.int .i64 G.row, .int .i64 G.col, v, .int .i64 G.cols] 139 (0, 0)) ∧ GL W (fun k => O k ∧ k ≠ g) v G.L
/-- What a method has done. -/
def Did (O : Nat → Prop) (W W' : World) (g : Nat) (G : GV) : Prop := ∃ O', GS O' W' g G ∧ (∀ k, O' k → O k ∨ W.heap.size ≤ k) ∧ Wr O W W'
section
variable {O O1 : Nat → Prop} {W W1 W2 : World} {g : Nat} {G : GV}
theorem GS.step (h : GS O W g G) (hs : W.heap.size ≤ W1.heap.size) (hm : ∀ k, O k → W1.heap[k]? = W.heap[k]?) : GS O W1 g G := by
  obtain ⟨v, hx, hL⟩ := h.ex
  exact ⟨h.og, fun k hk => Nat.lt_of_lt_of_le (h.ob k hk) hs, h.ok, v, (hm g h.og).trans hx, hL.step (fun k hk _ => hm k hk.1)⟩
theorem GS.below (h : GS O W g G) (hb : Below W.heap.size W W1) : GS O W1 g G := h.step hb.size (fun k hk => hb.block k (h.ob k hk))
theorem GS.lt (h : GS O W g G) : g < W.heap.size := h.ob g h.og
theorem Did.below (h : Did O W W1 g G) (hb : Below W1.heap.size W1 W2) : Did O W W2 g G := by
  obtain ⟨O', h1, h2, h3⟩ := h
  exact ⟨O', h1.below hb, h2, h3.then_ hb⟩
theorem GS.same (h : GS O W g G) : Did O W W g G := ⟨O, h, fun _ hk => .inl hk, Wr.refl _ _⟩
/-- .. the cells, spelled out. -/
theorem GS.open_ (h : GS O W g G) : ∃ b cap, O b ∧ b ≠ g ∧ G.L.length ≤ cap ∧ W.heap[g]? = some (.cells #[.int .i64 G.row, .int .i64 G.col, .slice (some ⟨b, 0, none⟩) G.L.length cap, .int .i64 G.cols] 139 (0, 0)) ∧
    GL W (fun k => O k ∧ k ≠ g) (.slice (some ⟨b, 0, none⟩) G.L.length cap) G.L ∧ ∀ (j : Nat) (l : List CS), G.L[j]? = some l → ∃ A c, W.cell? ⟨b, j, none⟩ = some (.slice A l.length c) ∧ W.frozen? ⟨b, j, none⟩ = false ∧ l.length ≤ c ∧ Kd.F kCl W (fun k => (O k ∧ k ≠ g) ∧ k ≠ b) A l.length l := by
  obtain ⟨v, hx, hL⟩ := h.ex
  obtain ⟨b, cap, rfl, hc, hb, ⟨cs, hy⟩, hr⟩ := id hL
  refine ⟨b, cap, hb.1, hb.2, hc, hx, hL, fun j l hj => ?_⟩
  obtain ⟨A, c, h1, h2, h3⟩ := hr j l hj
  exact ⟨A, c, h1, blk_frozen hy j, h2, h3⟩
end
end Go.Proofs.Ytblcmcdifgclcaa.Grd
