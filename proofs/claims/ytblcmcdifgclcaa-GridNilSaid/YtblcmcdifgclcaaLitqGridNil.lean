/- GridNil: what its proof leads to. No condition. -/
import Derived.Test.YtblcmcdifgclcaaWMoreqGridNil
import Derived.WalkKit
namespace Go.Proofs.Ytblcmcdifgclcaa
open Go.RowKit Go.Proofs.YtblcmcdifgclcaaW.PrintWords Go.Proofs.YtblcmcdifgclcaaW.PrintLast Go.Proofs.YtblcmcdifgclcaaW.PrintMore
set_option linter.unusedVariables false
set_option linter.unusedSimpArgs false

/-- A literal row of the call's own. -/
theorem R_lit0 {α : Type} (d : Kd α) {W : World} (base e : Nat) {xs : List α} {inner : List Value} {ok okp : Nat → Prop} (hrep : Reps (d.M W base okp) d.sz xs inner) (hok : ∀ k, okp k → ok k) (hfresh : ok W.heap.size) (hbase : base ≤ W.heap.size) (hm : xs.length ≤ 9223372036854775807) (hlt : ∀ k, okp k → k < W.heap.size) :
    d.R e (W.alloc (.cells inner.toArray e)) base ok (.slice (some ⟨W.heap.size, 0, none⟩) xs.length xs.length) xs := by
  refine ⟨fun k hk => ?_, inner, ?_, ?_⟩
  · have : W.heap.size = k := by simpa [Value.ownBlock] using hk
    subst this
    exact hfresh
  · have h := World.ownsRow_lit (base := base) (e := e) (size := d.sz) W inner.toArray xs.length hbase (by simpa [maxLen] using hm) (by simpa using hrep.1)
    simpa using h
  · refine hrep.imp_ fun p c hp => ?_
    refine d.M_mono (fun k hk => ⟨hok k hk, ?_⟩) (Kd.M_alloc hp _)
    have := hlt k hk
    simp [Value.ownBlock]
    omega

end Go.Proofs.Ytblcmcdifgclcaa
