/- GridNil: what its proof leads to. No condition. -/
import Derived.Test.YtblcmcdifgclcaaGrCqGridNil
namespace Go.Proofs.Ytblcmcdifgclcaa.Grd
open Go.RowKit Go.Proofs.Ytblcmcdifgclcaa Go.Proofs.Ytblcmcdifgclcaa.PGridSame Go.Proofs.YtblcmcdifgclcaaW.PrintWords Go.Proofs.YtblcmcdifgclcaaW.PrintLast Go.Proofs.YtblcmcdifgclcaaW.PrintMore
set_option linter.unusedVariables false
set_option linter.unusedSimpArgs false
set_option maxRecDepth 100000
set_option maxHeartbeats 4000000
attribute [local go_sem] max2_int min2_int max_two min_two
theorem infoLn : (Try.prog.info? 58).map (fun i => (i.zero, i.size, i.bytes)) = some (some (.slice none 0 0), 1, 24) := by kernel_rfl
section
variable {O : Nat → Prop} {W : World} {g : Nat} {G : GV}
theorem GS.moved (h : GS O W g G) (r c : Int) : Did O W ((W.setCell ⟨g, 0, none⟩ (.int .i64 (gBring r G.L.length))).setCell ⟨g, 1, none⟩ (.int .i64 (gBring c G.cols))) g (gMove G r c) := by
  obtain ⟨v, hx, hL⟩ := h.ex
  have h1 := blk_set (blk_set hx 0 (.int .i64 (gBring r G.L.length))) 1 (.int .i64 (gBring c G.cols))
  have hs : ∀ (W : World) (p : Addr) (u : Value), (W.setCell p u).heap.size = W.heap.size := fun W p u => by simp [World.setCell]
  refine ⟨O, ⟨h.og, fun k hk => by rw [hs, hs]; exact h.ob k hk, gMove_ok h.ok r c, v, by simpa [gMove] using h1, ?_⟩, fun k hk => .inl hk, ((Wr.refl O W).set (.inl h.og) _).set (.inl h.og) _⟩
  refine hL.step (fun k hk _ => ?_)
  rw [Below.heap_setCell _ _ _ k hk.2, Below.heap_setCell _ _ _ k hk.2]
theorem Move_any (h : GS O W g G) (r c : Int) : Calls Try.prog 60 #[.pointer (some ⟨g, 0, none⟩), .int .i64 r, .int .i64 c] W fun e w' => e = .returned (.tuple #[]) ∧ Did O W w' g (gMove G r c) := by
  obtain ⟨b, cap, h0, h1, h2, h3, -, -, -⟩ := h.cells
  obtain ⟨v, hx, -⟩ := h.ex
  have f0 := blk_frozen hx 0
  have f1 := blk_frozen hx 1
  have HS := Aside0.mk h
  have hw1 : wrap64 ((G.L.length : Int) - 1) = (G.L.length : Int) - 1 := w64 (by omega) (by have := h.ok.r2; omega)
  have hw2 : wrap64 ((G.cols : Int) - 1) = (G.cols : Int) - 1 := w64 (by omega) (by have := h.ok.c2; omega)
  have hm : ∀ (x : Int) (n : Nat), (if (n : Int) - 1 < (if x < 0 then 0 else x) then (n : Int) - 1 else (if x < 0 then 0 else x)) = gBring x n := fun x n => by unfold gBring mn mx; rfl
  clear h hx
  go_enter Try.func60, Try.ntmps60
  go_wp2
  refine start_ (n := 22) (S := fun w' => w'.cell? ⟨g, 2, none⟩ = some (.slice (some ⟨b, 0, none⟩) G.L.length cap) ∧ w'.cell? ⟨g, 3, none⟩ = some (.int .i64 G.cols)) (ds := [21]) #[false, false, false, false, false, false, false, false, false, false, false, false, false, false, false, false, false, false, false, false, false, false] (by kernel_rfl) rfl rfl ⟨h2, h3⟩ (fun hHeld => ?_)
  refine pure_ (i := 0) (N := some 8) (v := ?_) (a' := ?_) #[true, false, false, false, false, false, false, false, false, false, false, false, false, false, false, false, false, false, false, false, false, false] rfl rfl (by kernel_rfl) (fun _ _ _ h => h) (Or.inl ⟨by rfl, ?_⟩) ?_ ?_
  rotate_left
  · intro w'
    go_simp
    with_reducible rfl
  rotate_left
  · simp only [Act.put, List.setIfInBounds_toArray, List.set_cons_zero, List.set_cons_succ, i64_w, i32_w]
    rfl
  refine pure_ (i := 1) (N := some 9) (v := ?_) (a' := ?_) #[true, true, false, false, false, false, false, false, false, false, false, false, false, false, false, false, false, false, false, false, false, false] rfl rfl (by kernel_rfl) (fun _ _ _ h => h) (Or.inl ⟨by rfl, ?_⟩) ?_ ?_
  rotate_left
  · intro w'
    go_simp
    with_reducible rfl
  rotate_left
  · simp only [Act.put, List.setIfInBounds_toArray, List.set_cons_zero, List.set_cons_succ, i64_w, i32_w]
    rfl
  refine pure_ (i := 2) (N := some 10) (v := ?_) (a' := ?_) #[true, true, true, false, false, false, false, false, false, false, false, false, false, false, false, false, false, false, false, false, false, false] rfl rfl (by kernel_rfl) (fun _ _ _ h => h) (Or.inl ⟨by rfl, ?_⟩) ?_ ?_
  rotate_left
  · intro w'
    go_simp
    with_reducible rfl
  rotate_left
  · simp only [Act.put, List.setIfInBounds_toArray, List.set_cons_zero, List.set_cons_succ, i64_w, i32_w]
    rfl
  refine pure_ (i := 3) (N := some 11) (v := ?_) (a' := ?_) #[true, true, true, true, false, false, false, false, false, false, false, false, false, false, false, false, false, false, false, false, false, false] rfl rfl (by kernel_rfl) (fun _ _ _ h => h) (Or.inl ⟨by rfl, ?_⟩) ?_ ?_
  rotate_left
  · intro w'
    go_simp
    with_reducible rfl
  rotate_left
  · simp only [Act.put, List.setIfInBounds_toArray, List.set_cons_zero, List.set_cons_succ, i64_w, i32_w]
    rfl
  refine pure_ (i := 4) (N := some 12) (v := ?_) (a' := ?_) #[true, true, true, true, true, false, false, false, false, false, false, false, false, false, false, false, false, false, false, false, false, false] rfl rfl (by kernel_rfl) (fun _ _ _ h => h) (Or.inl ⟨by rfl, ?_⟩) ?_ ?_
  rotate_left
  · intro w'
    go_simp
    with_reducible rfl
  rotate_left
  · simp only [Act.put, List.setIfInBounds_toArray, List.set_cons_zero, List.set_cons_succ, i64_w, i32_w]
    rfl
  refine pure_ (i := 5) (N := some 13) (v := ?_) (a' := ?_) #[true, true, true, true, true, true, false, false, false, false, false, false, false, false, false, false, false, false, false, false, false, false] rfl rfl (by kernel_rfl) (fun _ _ _ h => h) (Or.inl ⟨by rfl, ?_⟩) ?_ ?_
  rotate_left
  · intro w'
    go_simp
    with_reducible rfl
  rotate_left
  · simp only [Act.put, List.setIfInBounds_toArray, List.set_cons_zero, List.set_cons_succ, i64_w, i32_w]
    rfl
  refine pure_ (i := 10) (N := some 18) (v := ?_) (a' := ?_) #[true, true, true, true, true, true, false, false, false, false, true, false, false, false, false, false, false, false, false, false, false, false] rfl rfl (by kernel_rfl) (fun _ _ _ h => h) (Or.inl ⟨by rfl, ?_⟩) ?_ ?_
  rotate_left
  · intro w'
    go_simp
    with_reducible rfl
  rotate_left
  · simp only [Act.put, List.setIfInBounds_toArray, List.set_cons_zero, List.set_cons_succ, i64_w, i32_w]
    rfl
  refine pure_ (i := 11) (N := some 19) (v := ?_) (a' := ?_) #[true, true, true, true, true, true, false, false, false, false, true, true, false, false, false, false, false, false, false, false, false, false] rfl rfl (by kernel_rfl) (fun _ _ _ h => h) (Or.inl ⟨by rfl, ?_⟩) ?_ ?_
  rotate_left
  · intro w'
    go_simp
    with_reducible rfl
  rotate_left
  · simp only [Act.put, List.setIfInBounds_toArray, List.set_cons_zero, List.set_cons_succ, i64_w, i32_w]
    rfl
  refine pure_ (i := 12) (N := some 20) (v := ?_) (a' := ?_) #[true, true, true, true, true, true, false, false, false, false, true, true, true, false, false, false, false, false, false, false, false, false] rfl rfl (by kernel_rfl) (fun _ _ _ h => h) (Or.inl ⟨by rfl, ?_⟩) ?_ ?_
  rotate_left
  · intro w'
    go_simp
    with_reducible rfl
  rotate_left
  · simp only [Act.put, List.setIfInBounds_toArray, List.set_cons_zero, List.set_cons_succ, i64_w, i32_w]
    rfl
  refine pure_ (i := 13) (N := some 21) (v := ?_) (a' := ?_) #[true, true, true, true, true, true, false, false, false, false, true, true, true, true, false, false, false, false, false, false, false, false] rfl rfl (by kernel_rfl) (fun _ _ _ h => h) (Or.inl ⟨by rfl, ?_⟩) ?_ ?_
  rotate_left
  · intro w'
    go_simp
    with_reducible rfl
  rotate_left
  · simp only [Act.put, List.setIfInBounds_toArray, List.set_cons_zero, List.set_cons_succ, i64_w, i32_w]
    rfl
  refine pure_ (i := 14) (N := some 22) (v := ?_) (a' := ?_) #[true, true, true, true, true, true, false, false, false, false, true, true, true, true, true, false, false, false, false, false, false, false] rfl rfl (by kernel_rfl) (fun _ _ _ h => h) (Or.inl ⟨by rfl, ?_⟩) ?_ ?_
  rotate_left
  · intro w'
    go_simp
    with_reducible rfl
  rotate_left
  · simp only [Act.put, List.setIfInBounds_toArray, List.set_cons_zero, List.set_cons_succ, i64_w, i32_w]
    rfl
  refine take_ (i := 6) (N := some 14) (v := ?_) (a' := ?_) #[true, true, true, true, true, true, true, false, false, false, true, true, true, true, true, false, false, false, false, false, false, false] rfl rfl (by kernel_rfl) (fun _ _ _ h => h) (Or.inl ⟨by rfl, ?_⟩) hHeld ?_ ?_
  rotate_left
  · rintro w' ⟨s0, s1⟩
    go_simp
    with_reducible rfl
  rotate_left
  · simp only [Act.put, List.setIfInBounds_toArray, List.set_cons_zero, List.set_cons_succ, i64_w, i32_w]
    rfl
  refine pure_ (i := 7) (N := some 15) (v := ?_) (a' := ?_) #[true, true, true, true, true, true, true, true, false, false, true, true, true, true, true, false, false, false, false, false, false, false] rfl rfl (by kernel_rfl) (fun _ _ _ h => h) (Or.inl ⟨by rfl, ?_⟩) ?_ ?_
  rotate_left
  · intro w'
    go_simp
    with_reducible rfl
  rotate_left
  · simp only [Act.put, List.setIfInBounds_toArray, List.set_cons_zero, List.set_cons_succ, i64_w, i32_w]
    rfl
  refine pure_ (i := 8) (N := some 16) (v := ?_) (a' := ?_) #[true, true, true, true, true, true, true, true, true, false, true, true, true, true, true, false, false, false, false, false, false, false] rfl rfl (by kernel_rfl) (fun _ _ _ h => h) (Or.inl ⟨by rfl, ?_⟩) ?_ ?_
  rotate_left
  · intro w'
    go_simp
    with_reducible rfl
  rotate_left
  · simp only [Act.put, List.setIfInBounds_toArray, List.set_cons_zero, List.set_cons_succ, i64_w, i32_w]
    rfl
  refine pure_ (i := 9) (N := some 17) (v := ?_) (a' := ?_) #[true, true, true, true, true, true, true, true, true, true, true, true, true, true, true, false, false, false, false, false, false, false] rfl rfl (by kernel_rfl) (fun _ _ _ h => h) (Or.inl ⟨by rfl, ?_⟩) ?_ ?_
  rotate_left
  · intro w'
    go_simp
    with_reducible rfl
  rotate_left
  · simp only [Act.put, List.setIfInBounds_toArray, List.set_cons_zero, List.set_cons_succ, i64_w, i32_w]
    rfl
  refine take_ (i := 15) (N := some 23) (v := ?_) (a' := ?_) #[true, true, true, true, true, true, true, true, true, true, true, true, true, true, true, true, false, false, false, false, false, false] rfl rfl (by kernel_rfl) (fun _ _ _ h => h) (Or.inl ⟨by rfl, ?_⟩) hHeld ?_ ?_
  rotate_left
  · rintro w' ⟨s0, s1⟩
    go_simp
    with_reducible rfl
  rotate_left
  · simp only [Act.put, List.setIfInBounds_toArray, List.set_cons_zero, List.set_cons_succ, i64_w, i32_w]
    rfl
  refine pure_ (i := 16) (N := some 24) (v := ?_) (a' := ?_) #[true, true, true, true, true, true, true, true, true, true, true, true, true, true, true, true, true, false, false, false, false, false] rfl rfl (by kernel_rfl) (fun _ _ _ h => h) (Or.inl ⟨by rfl, ?_⟩) ?_ ?_
  rotate_left
  · intro w'
    go_simp
    with_reducible rfl
  rotate_left
  · simp only [Act.put, List.setIfInBounds_toArray, List.set_cons_zero, List.set_cons_succ, i64_w, i32_w]
    rfl
  refine pure_ (i := 17) (N := some 25) (v := ?_) (a' := ?_) #[true, true, true, true, true, true, true, true, true, true, true, true, true, true, true, true, true, true, false, false, false, false] rfl rfl (by kernel_rfl) (fun _ _ _ h => h) (Or.inl ⟨by rfl, ?_⟩) ?_ ?_
  rotate_left
  · intro w'
    go_simp
    with_reducible rfl
  rotate_left
  · simp only [Act.put, List.setIfInBounds_toArray, List.set_cons_zero, List.set_cons_succ, i64_w, i32_w]
    rfl
  refine pure_ (i := 18) (N := some 26) (v := ?_) (a' := ?_) #[true, true, true, true, true, true, true, true, true, true, true, true, true, true, true, true, true, true, true, false, false, false] rfl rfl (by kernel_rfl) (fun _ _ _ h => h) (Or.inl ⟨by rfl, ?_⟩) ?_ ?_
  rotate_left
  · intro w'
    go_simp
    with_reducible rfl
  rotate_left
  · simp only [Act.put, List.setIfInBounds_toArray, List.set_cons_zero, List.set_cons_succ, i64_w, i32_w]
    rfl
  refine pure_ (i := 19) (N := some 27) (v := ?_) (a' := ?_) #[true, true, true, true, true, true, true, true, true, true, true, true, true, true, true, true, true, true, true, true, false, false] rfl rfl (by kernel_rfl) (fun _ _ _ h => h) (Or.inl ⟨by rfl, ?_⟩) ?_ ?_
  rotate_left
  · intro w'
    go_simp
    with_reducible rfl
  rotate_left
  · simp only [Act.put, List.setIfInBounds_toArray, List.set_cons_zero, List.set_cons_succ, i64_w, i32_w]
    rfl
  refine pure_ (i := 20) (N := some 28) (v := ?_) (a' := ?_) #[true, true, true, true, true, true, true, true, true, true, true, true, true, true, true, true, true, true, true, true, true, false] rfl rfl (by kernel_rfl) (fun _ _ _ h => h) (Or.inl ⟨by rfl, ?_⟩) ?_ ?_
  rotate_left
  · intro w'
    go_simp
    with_reducible rfl
  rotate_left
  · simp only [Act.put, List.setIfInBounds_toArray, List.set_cons_zero, List.set_cons_succ, i64_w, i32_w]
    rfl
  refine last_ (i := 21) (N := none) #[true, true, true, true, true, true, true, true, true, true, true, true, true, true, true, true, true, true, true, true, true, true] rfl rfl (by kernel_rfl) (by decide) (fun K hK => ?_)
  refine skip_ (w1 := ?_) (by rfl) rfl ?_ ?_
  rotate_left
  · go_simp
    rfl
  refine hK.out _ _ ?_
  clear hK K
  refine done_ (by kernel_rfl) ?_
  all_goals go_wp2
  all_goals go_end0
  all_goals exact ⟨rfl, (HS.out.moved r c).below (by repeat (first | exact Below.refl _ _ | apply below_alloc | apply pw_below_drewN | apply below_drew1 | (refine Below.setCell ?_ (by simp) _)))⟩
end
/-- A grid that is being made: its block, its rows so far. -/
structure GB (w W : World) (g : Nat) (row col : Int) (cols : Nat) (v : Value) (L : List (List CS)) : Prop where
  hb : Below w.heap.size w W
  ge : w.heap.size ≤ g
  bx : W.heap[g]? = some (.cells #[.int .i64 row, .int .i64 col, v, .int .i64 cols] 139 (0, 0))
  rows : Kd.N kL tLn W (g + 1) (fun k => g < k) v L
/-- A new grid. -/
def Fresh (w W : World) (g : Nat) (G : GV) : Prop := GS (fun k => w.heap.size ≤ k ∧ k < W.heap.size) W g G ∧ Below w.heap.size w W
section
variable {w W W1 : World} {g : Nat} {row col : Int} {cols : Nat} {v v1 : Value} {L : List (List CS)}
theorem GB.below (h : GB w W g row col cols v L) (hb : Below W.heap.size W W1) : GB w W1 g row col cols v L :=
  ⟨below_then h.hb h.hb.size hb, h.ge, blk_below h.bx hb, Kd.N_below h.rows hb⟩
theorem GB.lt (h : GB w W g row col cols v L) : g < W.heap.size := blk_lt h.bx
theorem GB.cell (h : GB w W g row col cols v L) : W.cell? ⟨g, 2, none⟩ = some v ∧ W.frozen? ⟨g, 2, none⟩ = false := ⟨(blk_cell h.bx 2).trans rfl, blk_frozen h.bx 2⟩
theorem GB.noown (h : GB w W g row col cols v L) : some g ≠ v.ownBlock := fun e => by have := h.rows.1 g e.symm; omega
theorem GB.new (hb : Below w.heap.size w W) (row col : Int) (cols : Nat) : GB w (W.alloc (.cells #[.int .i64 row, .int .i64 col, .slice none 0 0, .int .i64 cols] 139 (0, 0))) W.heap.size row col cols (.slice none 0 0) [] :=
  ⟨below_alloc hb _, hb.size, blk_new _ _, Kd.N_nil _ _ _ _ _⟩
/-- A row more: behind the append. -/
theorem GB.more (h : GB w W g row col cols v L) {L1 : List (List CS)} (hN : Kd.N kL tLn W1 (g + 1) (fun k => g < k) v1 L1) (hg : W.grownBy W1 v.ownBlock) :
    W1.cell? ⟨g, 2, none⟩ = some v ∧ W1.frozen? ⟨g, 2, none⟩ = false ∧ GB w (W1.setCell ⟨g, 2, none⟩ v1) g row col cols v1 L1 := by
  have hx := blk_grown h.bx hg h.noown
  refine ⟨(blk_cell hx 2).trans rfl, blk_frozen hx 2, (h.hb.grown hg h.hb.size (fun k hk => by have := h.rows.1 k hk; have := h.ge; omega)).setCell h.ge _, h.ge, by simpa using blk_set hx 2 v1, Kd.N_far hN (fun k hk => Nat.ne_of_gt hk) _⟩
theorem GB.done (h : GB w W g row col cols v L) (hok : (⟨L, cols, row, col⟩ : GV).ok) : Fresh w W g ⟨L, cols, row, col⟩ := by
  refine ⟨⟨⟨h.ge, h.lt⟩, fun k hk => hk.2, hok, v, h.bx, ?_⟩, h.hb⟩
  refine (GL.ofN (by have := hok.r1; exact this) (Kd.N_bound h.rows)).mono (fun k hk => ⟨⟨Nat.le_trans h.ge (Nat.le_of_lt hk.1), hk.2⟩, Nat.ne_of_gt hk.1⟩)
theorem Fresh.below {G : GV} (h : Fresh w W g G) (hb : Below W.heap.size W W1) : Fresh w W1 g G := by
  have h1 := h.1.below hb
  refine ⟨⟨⟨h1.og.1, Nat.lt_of_lt_of_le h1.og.2 hb.size⟩, fun k hk => hk.2, h1.ok, ?_⟩, below_then h.2 h.2.size hb⟩
  obtain ⟨v, hx, hL⟩ := h1.ex
  exact ⟨v, hx, hL.mono (fun k hk => ⟨⟨hk.1.1, Nat.lt_of_lt_of_le hk.1.2 hb.size⟩, hk.2⟩)⟩
/-- What a method does to a new grid leaves it new. -/
theorem Fresh.then_ {G G1 : GV} {g1 : Nat} (h : Fresh w W g G) (hd : Did (fun k => w.heap.size ≤ k ∧ k < W.heap.size) W W1 g1 G1) : Fresh w W1 g1 G1 := by
  obtain ⟨O', h1, h2, h3⟩ := hd
  obtain ⟨v, hx, hL⟩ := h1.ex
  have hin : ∀ k, O' k → w.heap.size ≤ k ∧ k < W1.heap.size := fun k hk => ⟨(h2 k hk).elim (fun h => h.1) (fun h' => Nat.le_trans h.2.size h'), h1.ob k hk⟩
  refine ⟨⟨hin _ h1.og, fun k hk => hk.2, h1.ok, v, hx, hL.mono (fun k hk => ⟨hin k hk.1, hk.2⟩)⟩, ?_⟩
  exact h.2.trans (h3.toBelow h.2.size (fun k hk => hk.1))
end
end Go.Proofs.Ytblcmcdifgclcaa.Grd
