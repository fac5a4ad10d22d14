/- GridNil: what its proof leads to. No condition. -/
import Derived.Test.YtblcmcdifgclcaaGrTqGridNil
import Derived.Test.YtblcmcdifgclcaaGrUqGridNil
namespace Go.Proofs.Ytblcmcdifgclcaa.Grd
open Go.RowKit Go.Proofs.Ytblcmcdifgclcaa Go.Proofs.Ytblcmcdifgclcaa.PGridSame Go.Proofs.YtblcmcdifgclcaaW.PrintWords Go.Proofs.YtblcmcdifgclcaaW.PrintLast Go.Proofs.YtblcmcdifgclcaaW.PrintMore
set_option linter.unusedVariables false
set_option linter.unusedSimpArgs false
set_option maxRecDepth 100000
set_option maxHeartbeats 4000000
/-- A grid (in O), and boxes of the call's own beside it; what is written lies in O0, or is new. -/
structure QO (O0 : Nat → Prop) (O : Nat → Prop) (w W : World) (g : Nat) (G : GV) (gs : List (Nat × Obj)) : Prop where
  gr : GS O W g G
  wr : Wr O0 w W
  sub : ∀ k, O k → O0 k ∨ w.heap.size ≤ k
  bx : ∀ p ∈ gs, W.heap[p.1]? = some p.2 ∧ w.heap.size ≤ p.1 ∧ ¬ O p.1
  nd : (gs.map Prod.fst).Nodup
section
variable {O0 O : Nat → Prop} {w W W1 : World} {g b : Nat} {G G1 : GV} {gs l1 l2 : List (Nat × Obj)} {o o' : Obj}
theorem QO.fresh (h : Fresh w W g G) (O0 : Nat → Prop) : QO O0 (fun k => w.heap.size ≤ k ∧ k < W.heap.size) w W g G [] := ⟨h.1, Wr.of_below h.2 _, fun _ hk => .inr hk.1, fun _ h => absurd h List.not_mem_nil, List.nodup_nil⟩
theorem QO.below (h : QO O0 O w W g G gs) (hb : Below W.heap.size W W1) : QO O0 O w W1 g G gs :=
  ⟨h.gr.below hb, h.wr.then_ hb, h.sub, fun p hp => ⟨blk_below (h.bx p hp).1 hb, (h.bx p hp).2⟩, h.nd⟩
theorem QO.box (h : QO O0 O w W g G gs) (hx : W1.heap[b]? = some o) (hg : b = W.heap.size) (hb : Below W.heap.size W W1) : QO O0 O w W1 g G ((b, o) :: gs) := by
  have h' := h.below hb
  refine ⟨h'.gr, h'.wr, h'.sub, fun p hp => ?_, ?_⟩
  · rcases List.mem_cons.1 hp with rfl | hp
    · exact ⟨hx, by rw [hg]; exact h.wr.size, fun hk => by have := h.gr.ob _ hk; have : b < W.heap.size := this; omega⟩
    · exact h'.bx p hp
  · rw [List.map_cons, List.nodup_cons]
    refine ⟨fun hm => ?_, h.nd⟩
    obtain ⟨p, hp, he⟩ := List.mem_map.1 hm
    have := blk_lt (h.bx p hp).1
    omega
theorem QO.store (h : QO O0 O w W g G (l1 ++ (b, o) :: l2)) (hx : W1.heap[b]? = some o') (hg : W.grownBy W1 (some b)) : QO O0 O w W1 g G (l1 ++ (b, o') :: l2) := by
  have hnd := h.nd
  rw [List.map_append, List.map_cons] at hnd
  obtain ⟨-, hgw, hno⟩ := h.bx (b, o) (by simp)
  have hne : ∀ p, p ∈ l1 ∨ p ∈ l2 → p.1 ≠ b := by
    rw [List.nodup_append] at hnd
    obtain ⟨n1, n2, n3⟩ := hnd
    rw [List.nodup_cons] at n2
    intro p hp e
    rcases hp with hp | hp
    · exact n3 p.1 (List.mem_map.2 ⟨p, hp, rfl⟩) b (by simp) e
    · exact n2.1 (List.mem_map.2 ⟨p, hp, e⟩)
  refine ⟨h.gr.step hg.size (fun k hk => hg.block k (h.gr.ob k hk) (fun e => by injection e with e; rw [e] at hk; exact hno hk)), h.wr.grown hg (fun k hk => by injection hk with hk; rw [← hk]; exact .inr hgw), h.sub, fun p hp => ?_, by rw [List.map_append, List.map_cons]; exact hnd⟩
  rcases List.mem_append.1 hp with hp | hp
  · exact ⟨blk_grown (h.bx p (List.mem_append_left _ hp)).1 hg (fun e => by injection e with e; exact hne p (.inl hp) e), (h.bx p (List.mem_append_left _ hp)).2⟩
  · rcases List.mem_cons.1 hp with rfl | hp
    · exact ⟨hx, hgw, hno⟩
    · exact ⟨blk_grown (h.bx p (List.mem_append_right _ (List.mem_cons_of_mem _ hp))).1 hg (fun e => by injection e with e; exact hne p (.inr hp) e), (h.bx p (List.mem_append_right _ (List.mem_cons_of_mem _ hp))).2⟩
/-- A method has done something. -/
theorem QO.did (h : QO O0 O w W g G gs) (hd : Did O W W1 g G1) : ∃ O', (∀ k, O' k → O k ∨ W.heap.size ≤ k) ∧ QO O0 O' w W1 g G1 gs := by
  obtain ⟨O', h1, h2, h3⟩ := hd
  refine ⟨O', h2, h1, h.wr.trans h3 h.sub, fun k hk => (h2 k hk).elim (h.sub k) (fun e => .inr (Nat.le_trans h.wr.size e)), fun p hp => ?_, h.nd⟩
  obtain ⟨a1, a2, a3⟩ := h.bx p hp
  exact ⟨h3.blk a1 a3, a2, fun hk => (h2 _ hk).elim a3 (fun e => by have := blk_lt a1; omega)⟩
theorem ccells {x : CS} (h : W.heap[b]? = some (cellB x)) : W.cell? ⟨b, 0, none⟩ = some (.int .i32 x.f0) ∧ W.cell? ⟨b, 1, none⟩ = some (.int .i32 x.f1.f0) ∧ W.cell? ⟨b, 2, none⟩ = some (.int .i32 x.f1.f1) ∧ W.cell? ⟨b, 3, none⟩ = some (.int .u8 x.f2) ∧ W.cell? ⟨b, 4, none⟩ = some (.int .u8 x.f3.f0) ∧ W.cell? ⟨b, 5, none⟩ = some (.int .u8 x.f3.f1) ∧ W.cell? ⟨b, 6, none⟩ = some (.int .u8 x.f3.f2) :=
  ⟨(blk_cell h 0).trans rfl, (blk_cell h 1).trans rfl, (blk_cell h 2).trans rfl, (blk_cell h 3).trans rfl, (blk_cell h 4).trans rfl, (blk_cell h 5).trans rfl, (blk_cell h 6).trans rfl⟩
end
section
theorem eqPenG (d : Nat) (w : World) (x0 y0 : Int) (x1 y1 : Int) (x2 y2 : Int) :
    (Op.equalIn (d + 2) 24 (.agg #[.int .u8 x0, .int .u8 x1, .int .u8 x2]) (.agg #[.int .u8 y0, .int .u8 y1, .int .u8 y2])).run Try.prog w = .ok (x0 == y0 && (x1 == y1 && (x2 == y2))) w := by
  refine eqA_of Try.underlying24 (by kernel_rfl) ?_
  refine eqf_cons (by rfl) (by go_simp; rfl) (by go_simp; rfl) (by go_simp) ?_
  refine eqf_cons (by rfl) (by go_simp; rfl) (by go_simp; rfl) (by go_simp) ?_
  exact eqf_last (by rfl) (by go_simp; rfl) (by go_simp; rfl) (by go_simp)
theorem eqArrG (d : Nat) (w : World) (x0 y0 : Int) (x1 y1 : Int) :
    (Op.equalIn (d + 2) 22 (.agg #[.int .i32 x0, .int .i32 x1]) (.agg #[.int .i32 y0, .int .i32 y1])).run Try.prog w = .ok (x0 == y0 && (x1 == y1)) w :=
  eqArr2 d 22 21 .i32 Try.underlying22 Try.underlying21 (by kernel_rfl) x0 y0 x1 y1 w
theorem eqCellG (d : Nat) (w : World) (x0 y0 : Int) (x1 y1 : Int) (x2 y2 : Int) (x3 y3 : Int) (x4 y4 : Int) (x5 y5 : Int) (x6 y6 : Int) :
    (Op.equalIn (d + 3) 26 (.agg #[.int .i32 x0, .int .i32 x1, .int .i32 x2, .int .u8 x3, .int .u8 x4, .int .u8 x5, .int .u8 x6]) (.agg #[.int .i32 y0, .int .i32 y1, .int .i32 y2, .int .u8 y3, .int .u8 y4, .int .u8 y5, .int .u8 y6])).run Try.prog w = .ok (x0 == y0 && ((x1 == y1 && (x2 == y2)) && (x3 == y3 && ((x4 == y4 && (x5 == y5 && (x6 == y6))))))) w := by
  have hu24 := Try.underlying24
  have hu22 := Try.underlying22
  refine eqA_of Try.underlying26 (by kernel_rfl) ?_
  refine eqf_cons (by rfl) (by go_simp; rfl) (by go_simp; rfl) (by go_simp) ?_
  refine eqf_cons (by rfl) (by go_simp) (by go_simp) (eqArrG (d + 0) w _ _ _ _) ?_
  refine eqf_cons (by rfl) (by go_simp; rfl) (by go_simp; rfl) (by go_simp) ?_
  exact eqf_last (by rfl) (by go_simp) (by go_simp) (eqPenG (d + 0) w _ _ _ _ _ _)
end
end Go.Proofs.Ytblcmcdifgclcaa.Grd
