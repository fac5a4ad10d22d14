/- A guarded operation whose guard is met is walked as one without a guard. No condition. -/
import Derived.Test.YtjomlpogdemgpaaWWords
namespace Go.Proofs.Ytjomlpogdemgpaa
open Go
theorem unguard {P : Program} {ops : Array Oper} {Q : Exit → Act → World → Prop} {rest : List Oper} {a : Act} {w : World} {o : Oper}
    (hw : Region.wanted o (yielded ops a.tmps) = true) (h : wpList P ops Q (⟨o.dst, o.op, o.type, o.pos, o.after, none⟩ :: rest) a w) : wpList P ops Q (o :: rest) a w := by
  have h1 : Region.wanted ⟨o.dst, o.op, o.type, o.pos, o.after, none⟩ (yielded ops a.tmps) = true := rfl
  unfold wpList at h ⊢
  rw [if_pos h1] at h
  rw [if_pos hw]
  exact h
#print axioms unguard
end Go.Proofs.Ytjomlpogdemgpaa
