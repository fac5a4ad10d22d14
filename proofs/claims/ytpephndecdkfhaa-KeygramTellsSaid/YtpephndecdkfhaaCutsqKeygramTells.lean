/- KeygramTells: what its proof leads to. No condition. -/
import Derived.Test.YtpephndecdkfhaaWMoreqKeygramTells
import Derived.WalkKit
namespace Go.Proofs.Ytpephndecdkfhaa
open Go.RowKit Go.Proofs.YtpephndecdkfhaaW.PrintWords Go.Proofs.YtpephndecdkfhaaW.PrintLast Go.Proofs.YtpephndecdkfhaaW.PrintMore

theorem cut_drop {P : Program} {α : Type} (d : Kd α) (t e : TypeId) (kl : IntKind) {z : Value} {bytes : Nat} (ht : P.underlying t = some (.slice e)) (hinfo : (P.info? e).map (fun i => (i.zero, i.size, i.bytes)) = some (some z, d.sz, bytes)) (A : Option Addr) (c : Nat) (xs : List α) (j : Int) (h0 : 0 ≤ j) (hm : j ≤ xs.length) (hc : xs.length ≤ c) :
    ∃ A' : Option Addr, (∀ W : World, (Instr.slice t (.slice A xs.length c) (some (.int kl j)) none none).run P W = .ok (.slice A' (xs.drop j.toNat).length (c - j.toNat)) W) ∧
      (∀ w : World, d.C w A xs.length xs → d.C w A' (xs.drop j.toNat).length (xs.drop j.toNat)) ∧ (xs.drop j.toNat).length ≤ c - j.toNat := by
  obtain ⟨i, hi, he⟩ := Option.map_eq_some_iff.1 hinfo
  simp only [Prod.mk.injEq] at he
  refine ⟨_, fun W => ?_, fun w h => Kd.C_drop h (by omega) hc, by rw [List.length_drop]; omega⟩
  rw [cut_from t e kl ht hi d.sz he.2.1 A xs.length c j h0 hm W, List.length_drop]
theorem cut_take {P : Program} {α : Type} (d : Kd α) (t e : TypeId) (kl : IntKind) {z : Value} {bytes : Nat} (ht : P.underlying t = some (.slice e)) (hinfo : (P.info? e).map (fun i => (i.zero, i.size, i.bytes)) = some (some z, d.sz, bytes)) (A : Option Addr) (c : Nat) (xs : List α) (j : Int) (h0 : 0 ≤ j) (hm : j ≤ xs.length) (hc : xs.length ≤ c) :
    (∀ W : World, (Instr.slice t (.slice A xs.length c) none (some (.int kl j)) none).run P W = .ok (.slice A (xs.take j.toNat).length c) W) ∧
      (∀ w : World, d.C w A xs.length xs → d.C w A (xs.take j.toNat).length (xs.take j.toNat)) ∧ (xs.take j.toNat).length ≤ c := by
  obtain ⟨i, hi, he⟩ := Option.map_eq_some_iff.1 hinfo
  have hl : (xs.take j.toNat).length = j.toNat := by rw [List.length_take]; omega
  refine ⟨fun W => ?_, fun w h => Kd.C_take h (by omega), by rw [hl]; omega⟩
  rw [cut_to t e kl ht hi A xs.length c j h0 hm hc W, hl]
theorem below_grown0 {w w1 : World} (h : Below w.heap.size w w1) (row : Option Nat) : w.grownBy w1 row := ⟨h.os, h.tape, h.output, h.size, fun k hk _ => h.block k hk⟩
theorem grown_trans {w w1 w2 : World} {row row2 : Option Nat} (h : w.grownBy w1 row) (k : w1.grownBy w2 row2) (hr : ∀ b, row2 = some b → row = some b ∨ w.heap.size ≤ b) : w.grownBy w2 row :=
  ⟨k.os.trans h.os, k.tape.trans h.tape, k.output.trans h.output, Nat.le_trans h.size k.size, fun i hi hne => by
    refine (k.block i (Nat.lt_of_lt_of_le hi h.size) (fun he => ?_)).trans (h.block i hi hne)
    rcases hr i he.symm with h2 | h2
    · exact hne h2.symm
    · omega⟩
theorem grown_refl (w : World) (row : Option Nat) : w.grownBy w row := ⟨rfl, rfl, rfl, Nat.le_refl _, fun _ _ _ => rfl⟩
theorem grown_set {w w1 : World} {g : Nat} (h : w.grownBy w1 (some g)) (j : Nat) (u : Value) : w.grownBy (w1.setCell ⟨g, j, none⟩ u) (some g) :=
  grown_trans h (row2 := some g) ⟨rfl, rfl, rfl, by simp [World.setCell], fun i _ hne => Below.heap_setCell w1 ⟨g, j, none⟩ u i (fun e => hne (by rw [e]))⟩ (fun b hb => .inl hb)
theorem grown_drewN {w w1 : World} {row : Option Nat} (h : w.grownBy w1 row) (m : Nat) : w.grownBy (w1.drewN m) row := ⟨h.os, h.tape, h.output, h.size, h.block⟩
theorem below_grown_ge {w0 w w1 : World} {g : Nat} (hB : Below w0.heap.size w0 w) (h : w.grownBy w1 (some g)) (hg : w0.heap.size ≤ g) : Below w0.heap.size w0 w1 := hB.grown h hB.size (fun k hk => by injection hk with hk; omega)

end Go.Proofs.Ytpephndecdkfhaa
