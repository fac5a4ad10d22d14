/- A literal row of the call's own. -/
import Derived.Test.YtlllbaieidbcdaaWMore
import Derived.WalkKit
namespace Go.Proofs.Ytlllbaieidbcdaa
open Go.RowKit Go.Proofs.YtlllbaieidbcdaaW.PrintWords Go.Proofs.YtlllbaieidbcdaaW.PrintLast Go.Proofs.YtlllbaieidbcdaaW.PrintMore
set_option linter.unusedVariables false
set_option linter.unusedSimpArgs false

/-- A literal row of the call's own. -/
theorem R_lit0 {α : Type} (d : Kd α) {W : World} (base e : Nat) {xs : List α} {inner : List Value} {ok okp : Nat → Prop} (hrep : Reps (d.M W base okp) d.sz xs inner) (hok : ∀ k, okp k → ok k) (hfresh : ok W.heap.size) (hbase : base ≤ W.heap.size) (hm : xs.length ≤ 9223372036854775807) (hlt : ∀ k, okp k → k < W.heap.size) :
    d.R e (W.alloc (.cells inner.toArray e)) base ok (.slice (some ⟨W.heap.size, 0, none⟩) xs.length xs.length) xs := by
  refine ⟨fun k hk => ?_, inner, ?_, ?_⟩
  · have : W.heap.size = k := by simpa [Value.ownBlock] using hk
    subst this
    exact hfresh
  · have h := World.ownsRow_lit (base := base) (e := e) (size := d.sz) W inner.toArray xs.length hbase (by simpa [maxLen] using hm) (by simpa using hrep.1)
    simpa using h
  · refine hrep.imp_ fun p c hp => ?_
    refine d.M_mono (fun k hk => ⟨hok k hk, ?_⟩) (Kd.M_alloc hp _)
    have := hlt k hk
    simp [Value.ownBlock]
    omega

theorem R_lit_int (k : IntKind) {W : World} (base e : Nat) (xs : List Int) (hbase : base ≤ W.heap.size) (hm : xs.length ≤ 9223372036854775807) :
    (Kd.int k).R e (W.alloc (.cells (nums k xs).toArray e)) base (fun _ => True) (.slice (some ⟨W.heap.size, 0, none⟩) xs.length xs.length) xs := by
  refine R_lit0 (Kd.int k) base e (okp := fun _ => False) ⟨by rw [nums_length]; simp [Kd.int, Kd.scalar], fun j p hj => ?_⟩ (fun _ h => h.elim) trivial hbase hm (fun _ h => h.elim)
  obtain ⟨hl, hp⟩ := List.getElem?_eq_some_iff.1 hj
  have hl' : j < (nums k xs).length := by rw [nums_length]; exact hl
  show _ = _
  simp only [Kd.int, Kd.scalar, Nat.mul_one]
  rw [List.drop_eq_getElem_cons hl']
  simp [nums, hp]

theorem R_lit_at (k : IntKind) {W : World} (base e g : Nat) (xs : List Int) (hg : g = W.heap.size) (hbase : base ≤ W.heap.size) (hm : xs.length ≤ 9223372036854775807) :
    (Kd.int k).R e (W.alloc (.cells (nums k xs).toArray e)) base (fun _ => True) (.slice (some ⟨g, 0, none⟩) xs.length xs.length) xs := by
  subst hg
  exact R_lit_int k base e xs hbase hm
end Go.Proofs.Ytlllbaieidbcdaa
