/- UTF-8: the bits of a scalar's bytes. -/
import Derived.Test.YtlllbaieidbcdaaUtfE
import Derived.Laws.DeepBits32
namespace Go.Proofs.Ytlllbaieidbcdaa
open Go.RowKit Go.Proofs.YtlllbaieidbcdaaW.PrintWords Go.Proofs.YtlllbaieidbcdaaW.PrintLast Go.Proofs.YtlllbaieidbcdaaW.PrintMore
theorem and63f : ∀ x : Fin 256, Go.bits .and .u8 ((x.val : Nat) : Int) 63 = ((x.val % 64 : Nat) : Int) := by decide +kernel
theorem and31f : ∀ x : Fin 256, Go.bits .and .i32 ((x.val : Nat) : Int) 31 = ((x.val % 32 : Nat) : Int) := by decide +kernel
theorem and15f : ∀ x : Fin 256, Go.bits .and .i32 ((x.val : Nat) : Int) 15 = ((x.val % 16 : Nat) : Int) := by decide +kernel
theorem and7f : ∀ x : Fin 256, Go.bits .and .i32 ((x.val : Nat) : Int) 7 = ((x.val % 8 : Nat) : Int) := by decide +kernel
theorem byte_nat {x : Int} (h : 0 ≤ x ∧ x ≤ 255) : ∃ y : Fin 256, x = ((y.val : Nat) : Int) := ⟨⟨x.toNat, by omega⟩, by show x = ((x.toNat : Nat) : Int); omega⟩
theorem and63 {x : Int} (h : 0 ≤ x ∧ x ≤ 255) : Go.bits .and .u8 x 63 = x % 64 := by obtain ⟨y, rfl⟩ := byte_nat h; rw [and63f]; omega
theorem and31 {x : Int} (h : 0 ≤ x ∧ x ≤ 255) : Go.bits .and .i32 x 31 = x % 32 := by obtain ⟨y, rfl⟩ := byte_nat h; rw [and31f]; omega
theorem and15 {x : Int} (h : 0 ≤ x ∧ x ≤ 255) : Go.bits .and .i32 x 15 = x % 16 := by obtain ⟨y, rfl⟩ := byte_nat h; rw [and15f]; omega
theorem and7 {x : Int} (h : 0 ≤ x ∧ x ≤ 255) : Go.bits .and .i32 x 7 = x % 8 := by obtain ⟨y, rfl⟩ := byte_nat h; rw [and7f]; omega
theorem or64_nat (x y : Nat) (hx : x * 64 + 64 ≤ 2147483648) (hy : y < 64) : Go.bits .or .i32 ((x * 64 : Nat) : Int) ((y : Nat) : Int) = ((x * 64 + y : Nat) : Int) := by
  show IntKind.i32.wrap ((BitVec.ofInt 32 ((x * 64 : Nat) : Int) ||| BitVec.ofInt 32 ((y : Nat) : Int)).toNat : Int) = _
  rw [BitVec.toNat_or, ofInt_u32 _ (by omega), ofInt_u32 _ (by omega)]
  have : x * 64 ||| y = x * 64 + y := by
    have := Nat.shiftLeft_add_eq_or_of_lt (i := 6) (show y < 2 ^ 6 by omega) x
    rw [Nat.shiftLeft_eq] at this
    exact this.symm
  rw [this]
  exact wrap_i32_small _ (by omega) (by omega)
theorem or64 {x y : Int} (hx : 0 ≤ x ∧ x * 64 + 64 ≤ 2147483648) (hy : 0 ≤ y ∧ y < 64) : Go.bits .or .i32 (x * 64) y = x * 64 + y := by
  obtain ⟨a, rfl⟩ : ∃ a : Nat, x = a := ⟨x.toNat, by omega⟩
  obtain ⟨b, rfl⟩ : ∃ b : Nat, y = b := ⟨y.toNat, by omega⟩
  have := or64_nat a b (by omega) (by omega)
  push_cast at this
  exact this
theorem w32 {x : Int} (h0 : -2147483648 ≤ x) (h1 : x < 2147483648) : wrap32 x = x := by unfold wrap32; omega
end Go.Proofs.Ytlllbaieidbcdaa
