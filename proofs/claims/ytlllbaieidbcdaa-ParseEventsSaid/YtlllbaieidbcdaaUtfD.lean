/- utf.Runes: the walk. -/
import Derived.Test.YtlllbaieidbcdaaUtfE
import Derived.Test.YtlllbaieidbcdaaRows
import Derived.Test.YtlllbaieidbcdaaLit
import Derived.Test.YtlllbaieidbcdaaCuts
import Derived.WalkKit
import Derived.WalkSpells
import Derived.WalkLawsBesides
import Derived.WalkSmall
import Derived.Lib.OthersKept
import Derived.ScopeJumps
namespace Go.Proofs.Ytlllbaieidbcdaa
open Go.RowKit Go.Proofs.YtlllbaieidbcdaaW.PrintWords Go.Proofs.YtlllbaieidbcdaaW.PrintLast Go.Proofs.YtlllbaieidbcdaaW.PrintMore
set_option linter.unusedVariables false
set_option linter.unusedSimpArgs false
theorem R_iterAt {k : IntKind} {e : Nat} {W : World} {base : Nat} {v : Value} {xs : List Int} (h : (Kd.int k).R e W base (fun _ => True) v xs) {b : Nat} (hb : b < base) (s : ByteArray) (p : Nat) : (Kd.int k).R e (W.iterAt b s p) base (fun _ => True) v xs := by
  obtain ⟨h1, inner, ho, hr⟩ := h
  exact ⟨h1, inner, ownsRow_iterAt ho hb s p, hr⟩
theorem drop_rdU {xs : List Int} {i : Nat} (h : i < xs.length) : xs.drop i = rd xs (i : Int) :: xs.drop (i + 1) := by
  rw [List.drop_eq_getElem_cons h]
  simp [rd, List.getD_eq_getElem?_getD, h]
theorem box_ltU (w : World) (o : Obj) : w.heap.size < (w.alloc o).heap.size := by show w.heap.size < (w.heap.push o).size; simp
theorem runesN_le : ∀ (n : Nat) (l : List Int), (runesN n l).length ≤ n := by
  intro n
  induction n with
  | zero => intro l; simp [runesN]
  | succ n ih =>
    intro l
    match l with
    | [] => simp [runesN]
    | a :: t =>
      rw [runesN]
      · split
        · simp
        · have := ih ((a :: t).drop (parseZ (a :: t)).2.1.toNat); simp; exact this
      · simp
theorem runesZ_len (l : List Int) : (runesZ l).length ≤ l.length := runesN_le _ _
theorem iter_size (w : World) (s : ByteArray) (p : Nat) : (w.iter s p).heap.size = w.heap.size + 1 := Array.size_push _
theorem iter_block {w W : World} {s : ByteArray} {p : Nat} (h : Below (w.heap.size + 1) (w.iter s p) W) : W.heap[w.heap.size]? = some (.stringIter s p) := (h.block w.heap.size (by omega)).trans (World.iter_heap w s p)
theorem iter_next {w W : World} {s : ByteArray} {p : Nat} (h : Below (w.heap.size + 1) (w.iter s p) W) (p' : Nat) : Below (w.heap.size + 1) (w.iter s p') (W.iterAt w.heap.size s p') := by
  have hs := h.size
  rw [iter_size] at hs
  refine ⟨h.os, h.tape, h.output, by rw [iter_size, Lib.iterAt_size]; exact hs, fun k hk => ?_⟩
  by_cases e : k = w.heap.size
  · rw [e, World.iter_heap, Lib.iterAt_heap W w.heap.size s p p' (iter_block h)]
  · rw [Lib.iterAt_other _ _ _ _ _ e, h.block k hk]
    show (w.heap.push _)[k]? = (w.heap.push _)[k]?
    rw [Array.getElem?_push, Array.getElem?_push, if_neg e, if_neg e]
theorem iter_below {w W : World} {s : ByteArray} {p : Nat} (h : Below (w.heap.size + 1) (w.iter s p) W) : Below w.heap.size w W := by
  have h0 : Below w.heap.size w (w.iter s p) := below_alloc (Below.refl _ _) _
  exact h0.trans (h.mono (by omega))
theorem info21 : (Try.prog.info? 21).map (fun i => (i.zero, i.size, i.bytes)) = some (some (.int .i32 0), 1, 4) := by kernel_rfl
theorem info5u : (Try.prog.info? 5).map (fun i => (i.zero, i.size, i.bytes)) = some (some (.int .u8 0), 1, 1) := by kernel_rfl
end Go.Proofs.Ytlllbaieidbcdaa
