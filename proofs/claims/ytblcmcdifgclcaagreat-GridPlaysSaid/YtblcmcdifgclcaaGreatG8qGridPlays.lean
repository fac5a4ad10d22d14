/- GridPlays: what its proof leads to. No condition. -/
import Derived.Test.YtblcmcdifgclcaaGreatG7qGridPlays
import Derived.Laws.ResultCell
import Derived.Test.YtblcmcdifgclcaaGreatG6qGridPlays
namespace Go.Proofs.YtblcmcdifgclcaaGreat
open Go.RowKit Go.Proofs.YtblcmcdifgclcaaGreatW.PrintWords Go.Proofs.YtblcmcdifgclcaaGreatW.PrintLast Go.Proofs.YtblcmcdifgclcaaGreatW.PrintMore
set_option linter.unusedVariables false
set_option linter.unusedSimpArgs false
def markC (c0 c1 c2 c3 c4 c5 c6 r : Int) : Int × Int × Int × Int × Int × Int × Int × Bool :=
 if wOf r = 0 ∧ (c3 = 1 ∨ c3 = 2) then (if c1 = 0 then (c0, r, c2, c3, c4, c5, c6, true) else if c2 = 0 then (c0, c1, r, c3, c4, c5, c6, true) else (c0, c1, c2, c3, c4, c5, c6, false)) else (c0, c1, c2, c3, c4, c5, c6, false)
theorem C_two {W : World} {k : IntKind} {g o : Nat} {a b : Int} (h0 : W.cell? ⟨g, o, none⟩ = some (.int k a)) (h1 : W.cell? ⟨g, o + 1, none⟩ = some (.int k b)) : (Kd.int k).C W (some ⟨g, o, none⟩) [a, b].length [a, b] :=
 Kd.C_of_reads (h1 := fun _ => rfl) (enc := Value.int k) (d := 0) ⟨rfl, by simp, fun _ => ⟨⟨g, o, none⟩, rfl, fun j hj => by
  match j, hj with
  | 0, _ => simpa [Addr.add] using h0
  | 1, _ => simpa [Addr.add] using h1
  | j + 2, h => exact absurd h (by simp)⟩⟩
def index2 (c1 c2 : Int) : Int := if c1 = 0 then 0 else if c2 = 0 then 1 else -1
def Index2 (P : Program) (f : Nat) : Prop := ∀ (c1 c2 : Int) (A : Option Addr) (w : World), (Kd.int .i32).C w A [c1, c2].length [c1, c2] → Calls P f #[.slice A 2 2, .int .i32 0] w fun e w' => e = .returned (.int .i64 (index2 c1 c2)) ∧ ∃ n, w' = w.drewN n
theorem box_next (w : World) (o1 o2 : Obj) : ((w.alloc o1).alloc o2).heap[w.heap.size + 1]? = some o2 := by
 have := blk_new (w.alloc o1) o2
 rwa [show (w.alloc o1).heap.size = w.heap.size + 1 from Array.size_push _] at this
theorem blk_other {w : World} {g g' : Nat} {o : Obj} {i : Nat} {u : Value} (h : w.heap[g]? = some o) (hne : g ≠ g') : (w.setCell ⟨g', i, none⟩ u).heap[g]? = some o := (Below.heap_setCell w _ u g hne).trans h
end Go.Proofs.YtblcmcdifgclcaaGreat
