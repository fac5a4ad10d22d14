/- A reader and the document's reader, side by side. -/
import Derived.Test.YtjomlpogdemgpaaNumX
import Derived.Test.YtjomlpogdemgpaaNumT
import Derived.Test.YtjomlpogdemgpaaNumKnown
namespace Go.Proofs.Ytjomlpogdemgpaa
open Go.RowKit Go.Proofs.YtjomlpogdemgpaaW.PrintWords Go.Proofs.YtjomlpogdemgpaaW.PrintLast Go.Proofs.YtjomlpogdemgpaaW.PrintMore
set_option linter.unusedVariables false
set_option linter.unusedSimpArgs false

/-- A row of two numbers each. -/
theorem at_pair2 {k1 k2 : IntKind} {w : World} {A : Option Addr} {n : Nat} {xs : List (Int × Int)} (h : (Kd.pair (Kd.int k1) (Kd.int k2)).C w A n xs) (i : Int) (h0 : 0 ≤ i) (h1 : i < n) :
    ∃ ad, A = some ad ∧ w.cell? (ad.add (i.toNat * 2)) = some (.int k1 (xs.getD i.toNat (0, 0)).1) ∧ w.cell? (ad.add (i.toNat * 2 + 1)) = some (.int k2 (xs.getD i.toNat (0, 0)).2) := by
  obtain ⟨ad, c, rfl, hs, hr, hcell⟩ := ReadsRow.get_ h (0, 0) i h0 h1
  obtain ⟨c0, c1, rfl, e0, e1⟩ := hr
  obtain rfl : c0 = [.int k1 (xs.getD i.toNat (0, 0)).1] := e0
  obtain rfl : c1 = [.int k2 (xs.getD i.toNat (0, 0)).2] := e1
  exact ⟨ad, rfl, hcell 0 _ rfl, hcell 1 _ rfl⟩

theorem RS.fail_t {b : List Int} {s : RS} {n : Int} (hl : s.l = b.drop s.t.toNat) : (s.fail n).l = b.drop (s.fail n).t.toNat ∧ (s.fail n).t = s.t := by
  unfold RS.fail
  split
  · exact ⟨hl, rfl⟩
  · exact ⟨hl, rfl⟩

/-- The reader stands at block gR, the document's reader in the box gM: both as s says. -/
structure Play (w0 W : World) (gR gM : Nat) (A : Option Addr) (c : Nat) (b : List Int) (s : RS) : Prop where
  rd : RdS w0 W gR s
  box : W.heap[gM]? = some (.cells #[.slice A b.length c, .int .i64 s.t, .int .i64 s.e] 57 (0, 0))
  bel : Below w0.heap.size w0 W
  l : s.l = b.drop s.t.toNat
  t0 : 0 ≤ s.t
  t1 : s.t ≤ b.length
  ne : gR ≠ gM
  ge : w0.heap.size ≤ gM
  C : Kd.C (Kd.int .u8) w0 A b.length b
  hc : b.length ≤ c
  h8 : In8 b
  hl : b.length ≤ 200

section
variable {w0 W W1 : World} {gR gM : Nat} {A : Option Addr} {c : Nat} {b : List Int} {s : RS}
theorem Play.eta (h : Play w0 W gR gM A c b s) : (⟨b.drop s.t.toNat, s.t, s.e⟩ : RS) = s := by rw [← h.l]
theorem Play.below (h : Play w0 W gR gM A c b s) (hb : Below W.heap.size W W1) : Play w0 W1 gR gM A c b s :=
  ⟨h.rd.below hb, (hb.block gM (blk_lt h.box)).trans h.box, below_then h.bel h.bel.size hb, h.l, h.t0, h.t1, h.ne, h.ge, h.C, h.hc, h.h8, h.hl⟩
theorem Play.cells (h : Play w0 W gR gM A c b s) : gM < W.heap.size ∧ W.cell? ⟨gM, 0, none⟩ = some (.slice A b.length c) ∧ W.cell? ⟨gM, 1, none⟩ = some (.int .i64 s.t) ∧ W.cell? ⟨gM, 2, none⟩ = some (.int .i64 s.e) ∧
    W.frozen? ⟨gM, 0, none⟩ = false ∧ W.frozen? ⟨gM, 1, none⟩ = false ∧ W.frozen? ⟨gM, 2, none⟩ = false :=
  ⟨blk_lt h.box, by rw [blk_cell h.box]; rfl, by rw [blk_cell h.box]; rfl, by rw [blk_cell h.box]; rfl, blk_frozen h.box _, blk_frozen h.box _, blk_frozen h.box _⟩
theorem Play.held (h : Play w0 W gR gM A c b s) (hb : Below W.heap.size W W1) : W1.cell? ⟨gM, 0, none⟩ = some (.slice A b.length c) ∧ W1.cell? ⟨gM, 1, none⟩ = some (.int .i64 s.t) ∧ W1.cell? ⟨gM, 2, none⟩ = some (.int .i64 s.e) :=
  ⟨(h.below hb).cells.2.1, (h.below hb).cells.2.2.1, (h.below hb).cells.2.2.2.1⟩
/-- The document's reader is stored anew; then the reader goes on. -/
def put3 (W : World) (gM : Nat) (x y z : Value) : World := ((W.setCell ⟨gM, 0, none⟩ x).setCell ⟨gM, 1, none⟩ y).setCell ⟨gM, 2, none⟩ z
theorem Play.put (h : Play w0 W gR gM A c b s) (t e : Int) (o : Obj) :
    RdS w0 ((put3 W gM (.slice A b.length c) (.int .i64 t) (.int .i64 e)).alloc o) gR s ∧ ((put3 W gM (.slice A b.length c) (.int .i64 t) (.int .i64 e)).alloc o).heap[gM]? = some (.cells #[.slice A b.length c, .int .i64 t, .int .i64 e] 57 (0, 0)) ∧
      Below w0.heap.size w0 ((put3 W gM (.slice A b.length c) (.int .i64 t) (.int .i64 e)).alloc o) := by
  have hg : W.grownBy (put3 W gM (.slice A b.length c) (.int .i64 t) (.int .i64 e)) (some gM) := grown_set (grown_set (grown_set (grown_refl _ _) _ _) _ _) _ _
  refine ⟨(h.rd.grown hg (by simpa using h.ne)).alloc o, ?_, below_alloc (below_grown_ge h.bel hg h.ge) o⟩
  have := blk_set (blk_set (blk_set h.box 0 (.slice A b.length c)) 1 (.int .i64 t)) 2 (.int .i64 e)
  have h2 : (put3 W gM (.slice A b.length c) (.int .i64 t) (.int .i64 e)).heap[gM]? = some (.cells #[.slice A b.length c, .int .i64 t, .int .i64 e] 57 (0, 0)) := by simpa [put3] using this
  exact ((below_alloc (Below.refl _ _) o).block gM (blk_lt h2)).trans h2
theorem Play.fin {s' : RS} {W2 W3 : World} (h : Play w0 W gR gM A c b s) (hbox : W2.heap[gM]? = some (.cells #[.slice A b.length c, .int .i64 s'.t, .int .i64 s'.e] 57 (0, 0))) (hb : Below w0.heap.size w0 W2)
    (hr : RdS w0 W3 gR s') (hg : W2.grownBy W3 (some gR)) (hl : s'.l = b.drop s'.t.toNat) (ht : s.t ≤ s'.t) (ht1 : s'.t ≤ b.length) : Play w0 W3 gR gM A c b s' :=
  ⟨hr, blk_grown hbox hg (by simpa using h.ne.symm), below_grown_ge hb hg h.rd.ge, hl, Int.le_trans h.t0 ht, ht1, h.ne, h.ge, h.C, h.hc, h.h8, h.hl⟩
end
#print axioms Play.fin
end Go.Proofs.Ytjomlpogdemgpaa
