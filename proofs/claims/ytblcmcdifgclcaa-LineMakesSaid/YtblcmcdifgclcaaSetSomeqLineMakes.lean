/- LineMakes: what its proof leads to. No condition. -/
import Derived.Test.YtblcmcdifgclcaaWMoreqLineMakes
import Derived.Test.YtblcmcdifgclcaaLitqLineMakes
import Derived.Lib.SlBytesConst
import Derived.BigFrame
namespace Go.Proofs.Ytblcmcdifgclcaa
open Go.RowKit Go.Proofs.YtblcmcdifgclcaaW.PrintWords
theorem isSome_setCell (w : World) (a b : Addr) (v : Value) : ((w.setCell a v).cell? b).isSome = (w.cell? b).isSome := by
  unfold World.cell? World.setCell
  by_cases h : a.block = b.block
  · simp only [h]
    cases hb : w.heap[b.block]? with
    | none => simp [Array.getElem?_modify, hb]
    | some o =>
      cases o with
      | cells c t fr =>
        simp only [Array.getElem?_modify, hb, if_pos, Option.map_some]
        by_cases hs : b.spot.isSome = true
        · simp [hs]
        · by_cases ha : a.spot.isSome = true
          · simp [hs, ha]
          · by_cases ho : a.off = b.off
            · by_cases hlt : b.off < c.size
              · simp [hs, ha, ho, hlt]
              · simp [hs, ha, ho, hlt]
            · simp [hs, ha, ho]
      | _ => simp [Array.getElem?_modify, hb]
  · simp [Array.getElem?_modify, h]
end Go.Proofs.Ytblcmcdifgclcaa
