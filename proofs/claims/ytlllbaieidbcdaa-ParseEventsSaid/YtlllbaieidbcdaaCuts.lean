/- Cuts of any row that is read: the list's own length, an address that is a letter. -/
import Derived.Test.YtlllbaieidbcdaaWMore
import Derived.WalkKit
namespace Go.Proofs.Ytlllbaieidbcdaa
open Go.RowKit Go.Proofs.YtlllbaieidbcdaaW.PrintWords Go.Proofs.YtlllbaieidbcdaaW.PrintLast Go.Proofs.YtlllbaieidbcdaaW.PrintMore

theorem cut_drop {P : Program} {α : Type} (d : Kd α) (t e : TypeId) (kl : IntKind) {z : Value} {bytes : Nat} (ht : P.underlying t = some (.slice e)) (hinfo : (P.info? e).map (fun i => (i.zero, i.size, i.bytes)) = some (some z, d.sz, bytes)) (A : Option Addr) (c : Nat) (xs : List α) (j : Int) (h0 : 0 ≤ j) (hm : j ≤ xs.length) (hc : xs.length ≤ c) :
    ∃ A' : Option Addr, (∀ W : World, (Instr.slice t (.slice A xs.length c) (some (.int kl j)) none none).run P W = .ok (.slice A' (xs.drop j.toNat).length (c - j.toNat)) W) ∧
      (∀ w : World, d.C w A xs.length xs → d.C w A' (xs.drop j.toNat).length (xs.drop j.toNat)) ∧ (xs.drop j.toNat).length ≤ c - j.toNat := by
  obtain ⟨i, hi, he⟩ := Option.map_eq_some_iff.1 hinfo
  simp only [Prod.mk.injEq] at he
  refine ⟨_, fun W => ?_, fun w h => Kd.C_drop h (by omega) hc, by rw [List.length_drop]; omega⟩
  rw [cut_from t e kl ht hi d.sz he.2.1 A xs.length c j h0 hm W, List.length_drop]
theorem cut_take {P : Program} {α : Type} (d : Kd α) (t e : TypeId) (kl : IntKind) {z : Value} {bytes : Nat} (ht : P.underlying t = some (.slice e)) (hinfo : (P.info? e).map (fun i => (i.zero, i.size, i.bytes)) = some (some z, d.sz, bytes)) (A : Option Addr) (c : Nat) (xs : List α) (j : Int) (h0 : 0 ≤ j) (hm : j ≤ xs.length) (hc : xs.length ≤ c) :
    (∀ W : World, (Instr.slice t (.slice A xs.length c) none (some (.int kl j)) none).run P W = .ok (.slice A (xs.take j.toNat).length c) W) ∧
      (∀ w : World, d.C w A xs.length xs → d.C w A (xs.take j.toNat).length (xs.take j.toNat)) ∧ (xs.take j.toNat).length ≤ c := by
  obtain ⟨i, hi, he⟩ := Option.map_eq_some_iff.1 hinfo
  have hl : (xs.take j.toNat).length = j.toNat := by rw [List.length_take]; omega
  refine ⟨fun W => ?_, fun w h => Kd.C_take h (by omega), by rw [hl]; omega⟩
  rw [cut_to t e kl ht hi A xs.length c j h0 hm hc W, hl]
theorem cut_both {P : Program} {α : Type} (d : Kd α) (t e : TypeId) (kl kh : IntKind) {z : Value} {bytes : Nat} (ht : P.underlying t = some (.slice e)) (hinfo : (P.info? e).map (fun i => (i.zero, i.size, i.bytes)) = some (some z, d.sz, bytes)) (A : Option Addr) (c : Nat) (xs : List α) (lo hi' : Int) (h0 : 0 ≤ lo) (h1 : lo ≤ hi') (h2 : hi' ≤ xs.length) (hc : xs.length ≤ c) :
    ∃ A' : Option Addr, (∀ W : World, (Instr.slice t (.slice A xs.length c) (some (.int kl lo)) (some (.int kh hi')) none).run P W = .ok (.slice A' ((xs.take hi'.toNat).drop lo.toNat).length (c - lo.toNat)) W) ∧
      (∀ w : World, d.C w A xs.length xs → d.C w A' ((xs.take hi'.toNat).drop lo.toNat).length ((xs.take hi'.toNat).drop lo.toNat)) ∧ ((xs.take hi'.toNat).drop lo.toNat).length ≤ c - lo.toNat := by
  obtain ⟨i, hi, he⟩ := Option.map_eq_some_iff.1 hinfo
  simp only [Prod.mk.injEq] at he
  have hl : ((xs.take hi'.toNat).drop lo.toNat).length = hi'.toNat - lo.toNat := by rw [List.length_drop, List.length_take]; omega
  refine ⟨_, fun W => ?_, fun w h => Kd.C_mid h (by omega) (by omega) hc, by rw [hl]; omega⟩
  rw [cut_mid t e kl kh ht hi d.sz he.2.1 A xs.length c lo hi' h0 h1 h2 hc W, hl]

/-- Of a block of cells: what a change elsewhere leaves. -/
theorem grown_below {w w1 : World} {B : Nat} (h : w.grownBy w1 none) (hB : B ≤ w.heap.size) : Below B w w1 := ⟨h.os, h.tape, h.output, h.size, fun k hk => h.block k (by omega) (by simp)⟩
theorem below_grown0 {w w1 : World} (h : Below w.heap.size w w1) (row : Option Nat) : w.grownBy w1 row := ⟨h.os, h.tape, h.output, h.size, fun k hk _ => h.block k hk⟩
theorem grown_trans {w w1 w2 : World} {row row2 : Option Nat} (h : w.grownBy w1 row) (k : w1.grownBy w2 row2) (hr : ∀ b, row2 = some b → row = some b ∨ w.heap.size ≤ b) : w.grownBy w2 row :=
  ⟨k.os.trans h.os, k.tape.trans h.tape, k.output.trans h.output, Nat.le_trans h.size k.size, fun i hi hne => by
    refine (k.block i (Nat.lt_of_lt_of_le hi h.size) (fun he => ?_)).trans (h.block i hi hne)
    rcases hr i he.symm with h2 | h2
    · exact hne h2.symm
    · omega⟩
theorem grown_refl (w : World) (row : Option Nat) : w.grownBy w row := ⟨rfl, rfl, rfl, Nat.le_refl _, fun _ _ _ => rfl⟩
theorem grown_set {w w1 : World} {g : Nat} (h : w.grownBy w1 (some g)) (j : Nat) (u : Value) : w.grownBy (w1.setCell ⟨g, j, none⟩ u) (some g) :=
  grown_trans h (row2 := some g) ⟨rfl, rfl, rfl, by simp [World.setCell], fun i _ hne => Below.heap_setCell w1 ⟨g, j, none⟩ u i (fun e => hne (by rw [e]))⟩ (fun b hb => .inl hb)
theorem grown_drew {w w1 : World} {row : Option Nat} (h : w.grownBy w1 row) : w.grownBy w1.drew row := ⟨h.os, h.tape, h.output, h.size, h.block⟩
theorem grown_drewN {w w1 : World} {row : Option Nat} (h : w.grownBy w1 row) (m : Nat) : w.grownBy (w1.drewN m) row := ⟨h.os, h.tape, h.output, h.size, h.block⟩
theorem grown_alloc {w w1 : World} {row : Option Nat} (h : w.grownBy w1 row) (o : Obj) : w.grownBy (w1.alloc o) row := grown_trans h (row2 := none) (World.grownBy_alloc w1 o none) (by simp)
theorem below_grown_ge {w0 w w1 : World} {g : Nat} (hB : Below w0.heap.size w0 w) (h : w.grownBy w1 (some g)) (hg : w0.heap.size ≤ g) : Below w0.heap.size w0 w1 := hB.grown h hB.size (fun k hk => by injection hk with hk; omega)

theorem R_low {α : Type} {d : Kd α} {e base : Nat} {w : World} {ok : Nat → Prop} {v : Value} {xs : List α} (h : d.R e w base ok v xs) {p : Addr} (hp : p.block < base) (u : Value) : d.R e (w.setCell p u) base ok v xs :=
  Kd.R_mono (Kd.R_far (Kd.R_bound h) (fun k hk => by have := hk.2.1; omega) u) (fun _ hk => hk.1)
theorem below_cells {B : Nat} {W w1 : World} (hb : Below B W w1) : (∀ b o, b < B → w1.cell? ⟨b, o, none⟩ = W.cell? ⟨b, o, none⟩) ∧ (∀ b o, b < B → w1.frozen? ⟨b, o, none⟩ = W.frozen? ⟨b, o, none⟩) :=
  ⟨fun b o h => hb.cell (p := ⟨b, o, none⟩) h, fun b o h => hb.frozen (p := ⟨b, o, none⟩) h⟩
theorem cast_C {α : Type} {d : Kd α} {w : World} {A : Option Addr} {n m : Nat} {xs : List α} (h : n = m) (hc : d.C w A n xs) : d.C w A m xs := h ▸ hc
theorem bcell {W w1 : World} (hb : Below W.heap.size W w1) : (∀ b o, b < W.heap.size → w1.cell? ⟨b, o, none⟩ = W.cell? ⟨b, o, none⟩) ∧ (∀ b o, b < W.heap.size → w1.frozen? ⟨b, o, none⟩ = W.frozen? ⟨b, o, none⟩) :=
  ⟨fun b o h => hb.cell (p := ⟨b, o, none⟩) h, fun b o h => hb.frozen (p := ⟨b, o, none⟩) h⟩
end Go.Proofs.Ytlllbaieidbcdaa
