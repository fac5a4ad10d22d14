/- GridNil: what its proof leads to. No condition. -/
import Derived.Test.YtblcmcdifgclcaaWMoreqGridNil
import Derived.ChangeKeysEq
namespace Go.Proofs.Ytblcmcdifgclcaa
open Go
theorem eqArr2 {P : Program} (d : Nat) (t e : TypeId) (k : IntKind) (ht : P.underlying t = some (.array 2 e)) (he : P.underlying e = some (.int k)) (hs : (P.info? e).map (·.size) = some 1) (x0 y0 x1 y1 : Int) (w : World) :
    (Op.equalIn (d + 2) t (.agg #[.int k x0, .int k x1]) (.agg #[.int k y0, .int k y1])).run P w = .ok (x0 == y0 && (x1 == y1)) w := by
  obtain ⟨i, hi, hz⟩ := Option.map_eq_some_iff.1 hs
  rw [run_equalIn_array w (d + 1) _ _ ht hi]
  have hc : P.cellsOf e = 1 := by simp [Program.cellsOf, hi, hz]
  have h0 : ∀ a b : Int, (Op.equalIn (d + 1) e (.int k a) (.int k b)).run P w = .ok (a == b) w := fun a b => by rw [run_equalIn_int w d e k k _ _ he]
  have p0 : ∀ a b : Int, (part e #[.int k a, .int k b] 0).run P w = .ok (.int k a) w := fun a b => by simp [part, isAgg, run_underlying he]
  have p1 : ∀ a b : Int, (part e #[.int k a, .int k b] 1).run P w = .ok (.int k b) w := fun a b => by simp [part, isAgg, run_underlying he]
  rw [show List.range 2 = [0, 1] from rfl, hc]
  simp only [Op.eqItems, Sem.run_bind, Nat.zero_mul, Nat.one_mul, p0, h0, Result.andThen_ok]
  cases h : (x0 == y0)
  · simp
  · simp only [Bool.not_true, Bool.false_eq_true, if_false, Sem.run_bind, p1, h0, Result.andThen_ok, Bool.true_and]
    cases h2 : (x1 == y1) <;> simp
end Go.Proofs.Ytblcmcdifgclcaa
