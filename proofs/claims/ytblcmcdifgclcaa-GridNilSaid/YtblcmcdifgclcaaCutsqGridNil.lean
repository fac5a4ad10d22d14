/- GridNil: what its proof leads to. No condition. -/
import Derived.Test.YtblcmcdifgclcaaWMoreqGridNil
import Derived.WalkKit
namespace Go.Proofs.Ytblcmcdifgclcaa
open Go.RowKit Go.Proofs.YtblcmcdifgclcaaW.PrintWords Go.Proofs.YtblcmcdifgclcaaW.PrintLast Go.Proofs.YtblcmcdifgclcaaW.PrintMore

theorem cut_drop {P : Program} {α : Type} (d : Kd α) (t e : TypeId) (kl : IntKind) {z : Value} {bytes : Nat} (ht : P.underlying t = some (.slice e)) (hinfo : (P.info? e).map (fun i => (i.zero, i.size, i.bytes)) = some (some z, d.sz, bytes)) (A : Option Addr) (c : Nat) (xs : List α) (j : Int) (h0 : 0 ≤ j) (hm : j ≤ xs.length) (hc : xs.length ≤ c) :
    ∃ A' : Option Addr, (∀ W : World, (Instr.slice t (.slice A xs.length c) (some (.int kl j)) none none).run P W = .ok (.slice A' (xs.drop j.toNat).length (c - j.toNat)) W) ∧
      (∀ w : World, d.C w A xs.length xs → d.C w A' (xs.drop j.toNat).length (xs.drop j.toNat)) ∧ (xs.drop j.toNat).length ≤ c - j.toNat := by
  obtain ⟨i, hi, he⟩ := Option.map_eq_some_iff.1 hinfo
  simp only [Prod.mk.injEq] at he
  refine ⟨_, fun W => ?_, fun w h => Kd.C_drop h (by omega) hc, by rw [List.length_drop]; omega⟩
  rw [cut_from t e kl ht hi d.sz he.2.1 A xs.length c j h0 hm W, List.length_drop]
theorem cut_take {P : Program} {α : Type} (d : Kd α) (t e : TypeId) (kl : IntKind) {z : Value} {bytes : Nat} (ht : P.underlying t = some (.slice e)) (hinfo : (P.info? e).map (fun i => (i.zero, i.size, i.bytes)) = some (some z, d.sz, bytes)) (A : Option Addr) (c : Nat) (xs : List α) (j : Int) (h0 : 0 ≤ j) (hm : j ≤ xs.length) (hc : xs.length ≤ c) :
    (∀ W : World, (Instr.slice t (.slice A xs.length c) none (some (.int kl j)) none).run P W = .ok (.slice A (xs.take j.toNat).length c) W) ∧
      (∀ w : World, d.C w A xs.length xs → d.C w A (xs.take j.toNat).length (xs.take j.toNat)) ∧ (xs.take j.toNat).length ≤ c := by
  obtain ⟨i, hi, he⟩ := Option.map_eq_some_iff.1 hinfo
  have hl : (xs.take j.toNat).length = j.toNat := by rw [List.length_take]; omega
  refine ⟨fun W => ?_, fun w h => Kd.C_take h (by omega), by rw [hl]; omega⟩
  rw [cut_to t e kl ht hi A xs.length c j h0 hm hc W, hl]
theorem grown_refl (w : World) (row : Option Nat) : w.grownBy w row := ⟨rfl, rfl, rfl, Nat.le_refl _, fun _ _ _ => rfl⟩
end Go.Proofs.Ytblcmcdifgclcaa
