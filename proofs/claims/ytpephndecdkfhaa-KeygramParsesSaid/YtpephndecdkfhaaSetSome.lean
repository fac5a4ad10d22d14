/- A store leaves each cell that is there in its place. -/
import Derived.Test.YtpephndecdkfhaaWMore
namespace Go.Proofs.Ytpephndecdkfhaa
theorem isSome_setCell (w : World) (a b : Addr) (v : Value) : ((w.setCell a v).cell? b).isSome = (w.cell? b).isSome := by
  unfold World.cell? World.setCell
  by_cases h : a.block = b.block
  · simp only [h]
    cases hb : w.heap[b.block]? with
    | none => simp [Array.getElem?_modify, hb]
    | some o =>
      cases o with
      | cells c t fr =>
        simp only [Array.getElem?_modify, hb, if_pos, Option.map_some]
        by_cases hs : b.spot.isSome = true
        · simp [hs]
        · by_cases ha : a.spot.isSome = true
          · simp [hs, ha]
          · by_cases ho : a.off = b.off
            · by_cases hlt : b.off < c.size
              · simp [hs, ha, ho, hlt]
              · simp [hs, ha, ho, hlt]
            · simp [hs, ha, ho]
      | _ => simp [Array.getElem?_modify, hb]
  · simp [Array.getElem?_modify, h]
theorem cell_set_twice (w : World) (a : Addr) (u v : Value) (h : (w.cell? a).isSome = true) : ((w.setCell a u).setCell a v).cell? a = some v :=
  World.cell?_setCell_same' _ a v (by rw [isSome_setCell]; exact h)
theorem cell_set_twice2 (w : World) (a b : Addr) (u v x : Value) (h : (w.cell? a).isSome = true) : (((w.setCell a u).setCell b x).setCell a v).cell? a = some v :=
  World.cell?_setCell_same' _ a v (by rw [isSome_setCell, isSome_setCell]; exact h)
end Go.Proofs.Ytpephndecdkfhaa
