/- GridNil: what its proof leads to. No condition. -/
import Derived.Test.YtblcmcdifgclcaaGrNqGridNil
namespace Go.Proofs.Ytblcmcdifgclcaa.Grd
open Go.RowKit Go.Proofs.Ytblcmcdifgclcaa Go.Proofs.Ytblcmcdifgclcaa.PGridSame Go.Proofs.YtblcmcdifgclcaaW.PrintWords Go.Proofs.YtblcmcdifgclcaaW.PrintLast Go.Proofs.YtblcmcdifgclcaaW.PrintMore
set_option linter.unusedVariables false
set_option linter.unusedSimpArgs false
set_option maxRecDepth 100000
set_option maxHeartbeats 4000000
/-- Boxes of a call's own. -/
structure QW (w W : World) (gs : List (Nat × Obj)) : Prop where
  hb : Below w.heap.size w W
  bx : ∀ p ∈ gs, W.heap[p.1]? = some p.2 ∧ w.heap.size ≤ p.1
  nd : (gs.map Prod.fst).Nodup
section
variable {w W W1 : World} {gs l1 l2 : List (Nat × Obj)} {g : Nat} {o o' : Obj}
theorem QW.new (w : World) : QW w w [] := ⟨Below.refl _ _, fun _ h => absurd h List.not_mem_nil, List.nodup_nil⟩
theorem QW.below (h : QW w W gs) (hb : Below W.heap.size W W1) : QW w W1 gs := ⟨below_then h.hb h.hb.size hb, fun p hp => ⟨blk_below (h.bx p hp).1 hb, (h.bx p hp).2⟩, h.nd⟩
theorem QW.box (h : QW w W gs) (hx : W1.heap[g]? = some o) (hg : g = W.heap.size) (hb : Below W.heap.size W W1) : QW w W1 ((g, o) :: gs) := by
  have h' := h.below hb
  refine ⟨h'.hb, fun p hp => ?_, ?_⟩
  · rcases List.mem_cons.1 hp with rfl | hp
    · exact ⟨hx, by rw [hg]; exact h.hb.size⟩
    · exact h'.bx p hp
  · rw [List.map_cons, List.nodup_cons]
    refine ⟨fun hm => ?_, h.nd⟩
    obtain ⟨p, hp, he⟩ := List.mem_map.1 hm
    have := blk_lt (h.bx p hp).1
    omega
theorem QW.store (h : QW w W (l1 ++ (g, o) :: l2)) (hx : W1.heap[g]? = some o') (hg : W.grownBy W1 (some g)) : QW w W1 (l1 ++ (g, o') :: l2) := by
  have hnd := h.nd
  rw [List.map_append, List.map_cons] at hnd
  have hgw := (h.bx (g, o) (by simp)).2
  have hne : ∀ p, p ∈ l1 ∨ p ∈ l2 → p.1 ≠ g := by
    rw [List.nodup_append] at hnd
    obtain ⟨n1, n2, n3⟩ := hnd
    rw [List.nodup_cons] at n2
    intro p hp e
    rcases hp with hp | hp
    · exact n3 p.1 (List.mem_map.2 ⟨p, hp, rfl⟩) g (by simp) e
    · exact n2.1 (List.mem_map.2 ⟨p, hp, e⟩)
  refine ⟨h.hb.grown hg h.hb.size (fun k hk => by injection hk with hk; rw [← hk]; exact hgw), fun p hp => ?_, by rw [List.map_append, List.map_cons]; exact hnd⟩
  rcases List.mem_append.1 hp with hp | hp
  · exact ⟨blk_grown (h.bx p (List.mem_append_left _ hp)).1 hg (fun e => by injection e with e; exact hne p (.inl hp) e), (h.bx p (List.mem_append_left _ hp)).2⟩
  · rcases List.mem_cons.1 hp with rfl | hp
    · exact ⟨hx, hgw⟩
    · exact ⟨blk_grown (h.bx p (List.mem_append_right _ (List.mem_cons_of_mem _ hp))).1 hg (fun e => by injection e with e; exact hne p (.inr hp) e), (h.bx p (List.mem_append_right _ (List.mem_cons_of_mem _ hp))).2⟩
end
end Go.Proofs.Ytblcmcdifgclcaa.Grd
