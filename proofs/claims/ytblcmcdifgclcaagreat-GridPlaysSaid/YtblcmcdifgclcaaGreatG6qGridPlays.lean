/- GridPlays: what its proof leads to. No condition. -/
import Derived.Test.YtblcmcdifgclcaaGreatG0qGridPlays
import Derived.Test.YtblcmcdifgclcaaGreatG1qGridPlays
import Derived.Test.YtblcmcdifgclcaaGreatG2qGridPlays
import Derived.Test.YtblcmcdifgclcaaGreatG3qGridPlays
import Derived.Test.YtblcmcdifgclcaaGreatG4qGridPlays
import Derived.Test.YtblcmcdifgclcaaGreatG5qGridPlays
namespace Go.Proofs.YtblcmcdifgclcaaGreat
open Go.RowKit Go.Proofs.YtblcmcdifgclcaaGreatW.PrintWords Go.Proofs.YtblcmcdifgclcaaGreatW.PrintLast Go.Proofs.YtblcmcdifgclcaaGreatW.PrintMore
abbrev bN := @blk_drewN
abbrev bD := @blk_drew
abbrev bA := @blk_alloc
abbrev rA := @Kd.R_alloc
abbrev rN := @Kd.R_drewN
abbrev rD := @Kd.R_drew
abbrev lA := @ below_alloc
abbrev lN := @pw_below_drewN
abbrev lD := @ below_drew1
def tb (n m : Nat) : Array Bool := ((List.range n).map fun i => m.testBit i).toArray
abbrev aS {p : Prop} (h : p) : Aside0 p := ⟨h⟩
theorem kb {w w' : World} {g : Nat} {o : Obj} (x : Aside0 (w.heap[g]? = some o)) (h : w.heap[g]? = some o → w'.heap[g]? = some o := by intro h_; (with_reducible repeat (first | apply bN | apply bD | apply bA)); exact h_) : w'.heap[g]? = some o := h x.out
theorem s7_0 {w : World} {g : Nat} {t : TypeId} {v0 v1 v2 v3 v4 v5 v6 u : Value} (h : w.heap[g]? = some (.cells #[v0, v1, v2, v3, v4, v5, v6] t (0, 0))) : (w.setCell ⟨g, 0, none⟩ u).heap[g]? = some (.cells #[u, v1, v2, v3, v4, v5, v6] t (0, 0)) := blk_put h 0 u rfl
theorem s7_1 {w : World} {g : Nat} {t : TypeId} {v0 v1 v2 v3 v4 v5 v6 u : Value} (h : w.heap[g]? = some (.cells #[v0, v1, v2, v3, v4, v5, v6] t (0, 0))) : (w.setCell ⟨g, 1, none⟩ u).heap[g]? = some (.cells #[v0, u, v2, v3, v4, v5, v6] t (0, 0)) := blk_put h 1 u rfl
theorem s7_2 {w : World} {g : Nat} {t : TypeId} {v0 v1 v2 v3 v4 v5 v6 u : Value} (h : w.heap[g]? = some (.cells #[v0, v1, v2, v3, v4, v5, v6] t (0, 0))) : (w.setCell ⟨g, 2, none⟩ u).heap[g]? = some (.cells #[v0, v1, u, v3, v4, v5, v6] t (0, 0)) := blk_put h 2 u rfl
theorem s7_3 {w : World} {g : Nat} {t : TypeId} {v0 v1 v2 v3 v4 v5 v6 u : Value} (h : w.heap[g]? = some (.cells #[v0, v1, v2, v3, v4, v5, v6] t (0, 0))) : (w.setCell ⟨g, 3, none⟩ u).heap[g]? = some (.cells #[v0, v1, v2, u, v4, v5, v6] t (0, 0)) := blk_put h 3 u rfl
theorem s7_4 {w : World} {g : Nat} {t : TypeId} {v0 v1 v2 v3 v4 v5 v6 u : Value} (h : w.heap[g]? = some (.cells #[v0, v1, v2, v3, v4, v5, v6] t (0, 0))) : (w.setCell ⟨g, 4, none⟩ u).heap[g]? = some (.cells #[v0, v1, v2, v3, u, v5, v6] t (0, 0)) := blk_put h 4 u rfl
theorem s7_5 {w : World} {g : Nat} {t : TypeId} {v0 v1 v2 v3 v4 v5 v6 u : Value} (h : w.heap[g]? = some (.cells #[v0, v1, v2, v3, v4, v5, v6] t (0, 0))) : (w.setCell ⟨g, 5, none⟩ u).heap[g]? = some (.cells #[v0, v1, v2, v3, v4, u, v6] t (0, 0)) := blk_put h 5 u rfl
theorem s7_6 {w : World} {g : Nat} {t : TypeId} {v0 v1 v2 v3 v4 v5 v6 u : Value} (h : w.heap[g]? = some (.cells #[v0, v1, v2, v3, v4, v5, v6] t (0, 0))) : (w.setCell ⟨g, 6, none⟩ u).heap[g]? = some (.cells #[v0, v1, v2, v3, v4, v5, u] t (0, 0)) := blk_put h 6 u rfl
theorem s3_0 {w : World} {g : Nat} {t : TypeId} {v0 v1 v2 u : Value} (h : w.heap[g]? = some (.cells #[v0, v1, v2] t (0, 0))) : (w.setCell ⟨g, 0, none⟩ u).heap[g]? = some (.cells #[u, v1, v2] t (0, 0)) := blk_put h 0 u rfl
theorem s3_1 {w : World} {g : Nat} {t : TypeId} {v0 v1 v2 u : Value} (h : w.heap[g]? = some (.cells #[v0, v1, v2] t (0, 0))) : (w.setCell ⟨g, 1, none⟩ u).heap[g]? = some (.cells #[v0, u, v2] t (0, 0)) := blk_put h 1 u rfl
theorem s3_2 {w : World} {g : Nat} {t : TypeId} {v0 v1 v2 u : Value} (h : w.heap[g]? = some (.cells #[v0, v1, v2] t (0, 0))) : (w.setCell ⟨g, 2, none⟩ u).heap[g]? = some (.cells #[v0, v1, u] t (0, 0)) := blk_put h 2 u rfl
theorem s2_0 {w : World} {g : Nat} {t : TypeId} {v0 v1 u : Value} (h : w.heap[g]? = some (.cells #[v0, v1] t (0, 0))) : (w.setCell ⟨g, 0, none⟩ u).heap[g]? = some (.cells #[u, v1] t (0, 0)) := blk_put h 0 u rfl
theorem s2_1 {w : World} {g : Nat} {t : TypeId} {v0 v1 u : Value} (h : w.heap[g]? = some (.cells #[v0, v1] t (0, 0))) : (w.setCell ⟨g, 1, none⟩ u).heap[g]? = some (.cells #[v0, u] t (0, 0)) := blk_put h 1 u rfl
theorem s5_0 {w : World} {g : Nat} {t : TypeId} {v0 v1 v2 v3 v4 u : Value} (h : w.heap[g]? = some (.cells #[v0, v1, v2, v3, v4] t (0, 0))) : (w.setCell ⟨g, 0, none⟩ u).heap[g]? = some (.cells #[u, v1, v2, v3, v4] t (0, 0)) := blk_put h 0 u rfl
theorem s5_1 {w : World} {g : Nat} {t : TypeId} {v0 v1 v2 v3 v4 u : Value} (h : w.heap[g]? = some (.cells #[v0, v1, v2, v3, v4] t (0, 0))) : (w.setCell ⟨g, 1, none⟩ u).heap[g]? = some (.cells #[v0, u, v2, v3, v4] t (0, 0)) := blk_put h 1 u rfl
theorem s5_2 {w : World} {g : Nat} {t : TypeId} {v0 v1 v2 v3 v4 u : Value} (h : w.heap[g]? = some (.cells #[v0, v1, v2, v3, v4] t (0, 0))) : (w.setCell ⟨g, 2, none⟩ u).heap[g]? = some (.cells #[v0, v1, u, v3, v4] t (0, 0)) := blk_put h 2 u rfl
theorem s5_3 {w : World} {g : Nat} {t : TypeId} {v0 v1 v2 v3 v4 u : Value} (h : w.heap[g]? = some (.cells #[v0, v1, v2, v3, v4] t (0, 0))) : (w.setCell ⟨g, 3, none⟩ u).heap[g]? = some (.cells #[v0, v1, v2, u, v4] t (0, 0)) := blk_put h 3 u rfl
theorem s5_4 {w : World} {g : Nat} {t : TypeId} {v0 v1 v2 v3 v4 u : Value} (h : w.heap[g]? = some (.cells #[v0, v1, v2, v3, v4] t (0, 0))) : (w.setCell ⟨g, 4, none⟩ u).heap[g]? = some (.cells #[v0, v1, v2, v3, u] t (0, 0)) := blk_put h 4 u rfl
theorem kp {w w' : World} {g : Nat} {o o' : Obj} (x : Aside0 (w.heap[g]? = some o)) (h : w.heap[g]? = some o → w'.heap[g]? = some o' := by intro h_; (repeat (first | (with_reducible first | apply bN | apply bD | apply bA) | (with_reducible first | apply s7_0 | apply s7_1 | apply s7_2 | apply s7_3 | apply s7_4 | apply s7_5 | apply s7_6 | apply s3_0 | apply s3_1 | apply s3_2 | apply s2_0 | apply s2_1 | apply s5_0 | apply s5_1 | apply s5_2 | apply s5_3 | apply s5_4) | refine blk_far ?_ (Aside0.out (by assumption)) _)); exact h_) : w'.heap[g]? = some o' := h x.out
theorem kq {w w' : World} {g g' : Nat} {o o' : Obj} (x : Aside0 (w.heap[g]? = some o)) (h : w.heap[g]? = some o → w'.heap[g']? = some o' := by intro h_; (repeat (first | (with_reducible first | apply bN | apply bD | apply bA) | (with_reducible first | apply s7_0 | apply s7_1 | apply s7_2 | apply s7_3 | apply s7_4 | apply s7_5 | apply s7_6 | apply s3_0 | apply s3_1 | apply s3_2 | apply s2_0 | apply s2_1 | apply s5_0 | apply s5_1 | apply s5_2 | apply s5_3 | apply s5_4))); (first | exact h_ | (refine blk_other ?_ (by simp); exact h_))) : w'.heap[g']? = some o' := h x.out
theorem rr {q p : Prop} (x : Aside0 q) (h : q → p := by intro h_; (with_reducible repeat (first | apply rA | apply rN | apply rD)); exact h_) : p := h x.out
theorem rv {q p : Prop} (x : Aside0 q) (h : q → p := by intro h_; (with_reducible repeat (first | apply Kd.V_alloc | apply Kd.V_drewN | apply Kd.V_drew)); exact h_) : p := h x.out
theorem rC {q r s p : Prop} (x : q ∧ r ∧ s) (h : s → p := by intro h_; repeat (first | exact h_ | (with_reducible refine Kd.C_alloc ?_ _) | (with_reducible refine Kd.C_drewN ?_ _) | (with_reducible refine Kd.C_drew ?_))) : p := h x.2.2
theorem rK {α : Type} {d : Kd α} {e base : Nat} {w w' : World} {ok : Nat → Prop} {v : Value} {xs : List α} (x : d.R e w base ok v xs) (h : d.R e w base ok v xs → d.R e w' base ok v xs := by intro h_; (with_reducible repeat (refine Kd.R_far ?_ (fun _ hk => hk.2) _)); exact h_) : d.R e w' base ok v xs := h x
theorem bB {p : Prop} (h : p := by repeat (first | (with_reducible first | exact HB.out | apply lA | apply lN | apply lD) | exact HB.out)) : p := h
theorem bS {p : Prop} (h : p := by repeat (first | (with_reducible first | exact HB.out | apply lA | apply lN | apply lD) | refine below_set ?_ (Aside0.out (by assumption)) | exact HB.out)) : p := h
theorem bT {p : Prop} (h : p := by repeat (first | (with_reducible first | exact HB.out | apply lA | apply lN | apply lD | refine below_set ?_ (Nat.le_refl _) | refine below_set ?_ (Nat.le_succ _)) | exact HB.out)) : p := h
theorem bE {p : Prop} (h : p := by repeat (first | exact Below.refl _ _ | apply below_alloc | apply pw_below_drewN | apply below_drew1 | (refine Below.setCell ?_ (by simp) _))) : p := h
theorem ifS {α : Type} {c : Prop} [Decidable c] {x : Option α} {r : α} (h : (if c then x else none) = some r) : c ∧ x = some r := by
  by_cases hc : c
  · rw [if_pos hc] at h; exact ⟨hc, h⟩
  · rw [if_neg hc] at h; exact absurd h (by simp)
theorem rq {α : Type} {y e : α} {p q : Prop} (hy : y = e) (H : q) (h : y = e → q → p := by intro hy_ H_; first | (rw [hy_]; with_reducible exact H_) | (have H2_ := (Option.bind_some _ _).symm.trans H_; rw [hy_]; with_reducible exact H2_) | (have H2_ := (Option.bind_some _ _).symm.trans H_; with_reducible exact H2_) | with_reducible exact H_ | (rw [hy_]; exact H_) | exact H_) : p := h hy H
theorem fS {p : Prop} (h : p := by first | rfl | (simp; done) | (simp [*]; done)) : p := h
theorem dA {p : Prop} [Decidable p] (h : decide p = true := by first | (with_reducible assumption) | assumption) : p := of_decide_eq_true h
theorem xc {w w' : World} {a : Addr} {v : Value} (x : Aside0 (Below w.heap.size w w')) (h : w.cell? a = some v) : w'.cell? a = some v := (x.out.cell (World.block_lt_of_cell? w _ h)).trans h
theorem gw {g : Nat} {w w1 W : World} (x : Aside0 (Below w.heap.size w w1)) (hg : g = W.heap.size) (h : Below w.heap.size w w1 → Below w.heap.size w W := by intro h_; repeat (first | (with_reducible first | exact h_ | apply lA | apply lN | apply lD) | refine below_set ?_ (Aside0.out (by assumption)) | exact h_)) : w.heap.size ≤ g := by rw [hg]; exact below_size (h x.out)
section
variable {P : Program} {ops : Array Oper} {Q : Exit → Act → World → Prop} {md : Region.Mode} {S : World → Prop} {ds : List Nat} {rest : List Oper} {o oi : Oper} {a a' : Act} {w W : World}
theorem gL (f : FuncId) (N : Tmp) {fn : Func} (hf : P.funcs[f]? = some fn) (args : Array Value) {av : Array Operand} {ts : Array TypeId} (h : Calls P f args w fun e w' => ∃ v, e = .returned v ∧ wpList P ops Q rest (a.put (some N) v) w')
    (hop : oi.op = .call { callee := .value (.func f), args := av, argTypes := ts } := by with_reducible rfl) (hd : oi.dst = some N := by rfl) (hg : oi.guard = none := by rfl) (hname : (fn.name == "runtime.NumGoroutine") = false := by kernel_rfl) (hb : fn.body.isSome = true := by rfl) (hargs : av.map a.eval = args := by (try simp only [List.map_toArray, List.map_cons, List.map_nil]); first | done | rfl | (simp only [List.length_drop, List.length_take]; rfl)) : wpList P ops Q (oi :: rest) a w :=
  goesL_ (some N) hd hg hf hname hb args hop hargs h
theorem gO {fn : Func} {f : FuncId} (hf : P.funcs[f]? = some fn) (args : Array Value) {N : Option Tmp} {K : Act → World → Prop} {av : Array Operand} {ts : Array TypeId} (h : Calls P f args w fun e w' => ∃ v, e = .returned v ∧ K (a.put N v) w')
    (hop : oi.op = .call { callee := .value (.func f), args := av, argTypes := ts } := by rfl) (hname : (fn.name == "runtime.NumGoroutine") = false := by kernel_rfl) (hb : fn.body.isSome = true := by rfl) (hw : Region.wanted oi (yielded ops a.tmps) = true := by rfl) (hN : oi.dst = N := by rfl) (hargs : av.map a.eval = args := by (try simp only [List.map_toArray, List.map_cons, List.map_nil]); first | done | rfl | (simp only [List.length_drop, List.length_take]; rfl)) : if Region.wanted oi (yielded ops a.tmps) = true then Oper.wp P oi a w K Q else K (a.put N undef) w :=
  goes_ hf hname hb args hw hN hop hargs h
theorem bx (N : Tmp) (cs : Array Value) (t : TypeId) (h : ∀ g, g = W.heap.size → ∀ w1, w1.heap[g]? = some (.cells cs t (0, 0)) → Below W.heap.size W w1 → wpList P ops Q rest (a.put o.dst (.pointer (some ⟨g, 0, none⟩))) w1)
    (hd : o.dst = some N := by with_reducible rfl) (hg : o.guard = none := by rfl) (hrun : (execOp a.eval o).run P W = .ok (.value (.pointer (some ⟨W.heap.size, 0, none⟩))) (W.alloc (.cells cs t (0, 0))) := by first | (go_simp; done) | (go_simp; rfl)) : wpList P ops Q (o :: rest) a W :=
  box_event hg hd hrun h
theorem tk (i : Nat) (N : Option Tmp) (l' : Array Bool) {v : Value} {fuel : Nat} {l : Array Bool} {T : Bool × List (List Nat × List Nat)} {B : List Nat} (h : wpAnyLast P md ops Q S ds fuel l' a' w)
    (hi : ops[i]? = some oi := by rfl) (hN : oi.dst = N := by rfl) (hT : rtab md ops = T := by exact HT_.out) (hB : waitsOk T.2 B = true := by exact HW_.out) (hc : takeW T B ds l.toList l'.toList i = true := by kernel_rfl) (hQ : ∀ c a w, Q (.panic c) (a.put oi.dst v) w → Q (.panic c) a w := by exact fun _ _ _ h => h) (hy : YieldsIf P ops S oi v a := by refine Or.inl ⟨by rfl, ?_⟩; intro w' hs_; go_simp; with_reducible rfl) (hS : S w := by exact hHeld)
    (ha : a.put N v = a' := by simp only [Act.put, List.setIfInBounds_toArray, List.set_cons_zero, List.set_cons_succ, i64_w, i32_w]; rfl) : wpAnyLast P md ops Q S ds (fuel + 1) l a w :=
  take_ l' hi hN (take_ofW hT hB hc) hQ hy hS ha h
theorem tp (i : Nat) (N : Option Tmp) (l' : Array Bool) {v : Value} {fuel : Nat} {l : Array Bool} {T : Bool × List (List Nat × List Nat)} (h : wpAnyLast P md ops Q S ds fuel l' a' w)
    (hi : ops[i]? = some oi := by rfl) (hN : oi.dst = N := by rfl) (hT : rtab md ops = T := by exact HT_.out) (hc : anyT T l.toList l'.toList i = true := by kernel_rfl) (hQ : ∀ c a w, Q (.panic c) (a.put oi.dst v) w → Q (.panic c) a w := by exact fun _ _ _ h => h) (hy : Yields P ops oi v a := by refine Or.inl ⟨by rfl, ?_⟩; intro w'; go_simp; with_reducible rfl)
    (ha : a.put N v = a' := by simp only [Act.put, List.setIfInBounds_toArray, List.set_cons_zero, List.set_cons_succ, i64_w, i32_w]; rfl) : wpAnyLast P md ops Q S ds (fuel + 1) l a w :=
  pure_ l' hi hN (any_of hT hc) hQ hy ha h
theorem tK (i : Nat) (N : Option Tmp) (l' : Array Bool) {v : Value} {fuel : Nat} {l : Array Bool} (h : wpAnyLast P md ops Q S ds fuel l' a' w)
    (hi : ops[i]? = some oi := by rfl) (hN : oi.dst = N := by rfl) (hc : takeB md ops ds l l' i = true := by kernel_rfl) (hQ : ∀ c a w, Q (.panic c) (a.put oi.dst v) w → Q (.panic c) a w := by exact fun _ _ _ h => h) (hy : YieldsIf P ops S oi v a := by refine Or.inl ⟨by rfl, ?_⟩; intro w' hs_; go_simp; with_reducible rfl) (hS : S w := by exact hHeld)
    (ha : a.put N v = a' := by simp only [Act.put, List.setIfInBounds_toArray, List.set_cons_zero, List.set_cons_succ, i64_w, i32_w]; rfl) : wpAnyLast P md ops Q S ds (fuel + 1) l a w :=
  take_ l' hi hN hc hQ hy hS ha h
theorem tP (i : Nat) (N : Option Tmp) (l' : Array Bool) {v : Value} {fuel : Nat} {l : Array Bool} (h : wpAnyLast P md ops Q S ds fuel l' a' w)
    (hi : ops[i]? = some oi := by rfl) (hN : oi.dst = N := by rfl) (hc : anyB md ops l l' i = true := by kernel_rfl) (hQ : ∀ c a w, Q (.panic c) (a.put oi.dst v) w → Q (.panic c) a w := by exact fun _ _ _ h => h) (hy : Yields P ops oi v a := by refine Or.inl ⟨by rfl, ?_⟩; intro w'; go_simp; with_reducible rfl)
    (ha : a.put N v = a' := by simp only [Act.put, List.setIfInBounds_toArray, List.set_cons_zero, List.set_cons_succ, i64_w, i32_w]; rfl) : wpAnyLast P md ops Q S ds (fuel + 1) l a w :=
  pure_ l' hi hN hc hQ hy ha h
theorem tU (i : Nat) (N : Option Tmp) (l' : Array Bool) {fuel : Nat} {l : Array Bool} (h : wpAnyLast P md ops Q S ds fuel l' a' w)
    (hi : ops[i]? = some oi := by rfl) (hN : oi.dst = N := by rfl) (hc : anyB md ops l l' i = true := by kernel_rfl) (hQ : ∀ c a w, Q (.panic c) (a.put oi.dst undef) w → Q (.panic c) a w := by exact fun _ _ _ h => h) (hy : Yields P ops oi undef a := by exact Or.inr ⟨by rfl, rfl⟩)
    (ha : a.put N undef = a' := by simp only [Act.put, List.setIfInBounds_toArray, List.set_cons_zero, List.set_cons_succ, i64_w, i32_w]; rfl) : wpAnyLast P md ops Q S ds (fuel + 1) l a w :=
  pure_ l' hi hN hc hQ hy ha h
theorem sO (i : Nat) (N : Option Tmp) (l' : Array Bool) {fuel : Nat} {l : Array Bool} (h : ∀ K : Act → World → Prop, Shut (∀ a' w', S w' → (S w' → wpAnyLast P md ops Q S ds fuel l' a' w') → K a' w') → if Region.wanted oi (yielded ops a.tmps) = true then Oper.wp P oi a w K Q else K (a.put N undef) w)
    (hi : ops[i]? = some oi := by rfl) (hN : oi.dst = N := by rfl) (hc : readyB md ops l l' i = true := by kernel_rfl) (hd : i ∉ ds := by decide) : wpAnyLast P md ops Q S ds (fuel + 1) l a w :=
  one_ l' hi hN hc hd h
theorem nm {N : Option Tmp} {v : Value} {fuel : Nat} {l : Array Bool} (h : wpAnyLast P md ops Q S ds fuel l a' w) (ha : Act.put a N v = a' := by simp only [Act.put, List.setIfInBounds_toArray, List.set_cons_zero, List.set_cons_succ, i64_w, i32_w]; rfl) : wpAnyLast P md ops Q S ds fuel l (Act.put a N v) w := norm_ ha h
theorem st1 (i : Nat) (N : Option Tmp) (l' : Array Bool) {fuel : Nat} {l : Array Bool} {T : Bool × List (List Nat × List Nat)} (h : ∀ K : Act → World → Prop, Shut (∀ a' w', S w' → (S w' → wpAnyLast P md ops Q S ds fuel l' a' w') → K a' w') → if Region.wanted oi (yielded ops a.tmps) = true then Oper.wp P oi a w K Q else K (a.put N undef) w)
    (hi : ops[i]? = some oi := by rfl) (hN : oi.dst = N := by rfl) (hT : rtab md ops = T := by exact HT_.out) (hc : (readyT T.2 l.toList == [i] && l.toList.set i true == l'.toList) = true := by kernel_rfl) (hd : i ∉ ds := by decide) : wpAnyLast P md ops Q S ds (fuel + 1) l a w :=
  one_ l' hi hN (one_of hT hc) hd h
end
theorem c1 {w : World} {g : Nat} {t : TypeId} {v0 : Value} (h : w.heap[g]? = some (.cells #[v0] t (0, 0))) : w.cell? ⟨g, 0, none⟩ = some v0 :=
  (blk_cell h 0).trans rfl
theorem d1 {q : Prop} {w : World} {g : Nat} {t : TypeId} {v0 : Value} (h : w.heap[g]? = some (.cells #[v0] t (0, 0))) (r : q) : w.cell? ⟨g, 0, none⟩ = some v0 ∧ q :=
  ⟨(blk_cell h 0).trans rfl, r⟩
theorem c2 {w : World} {g : Nat} {t : TypeId} {v0 v1 : Value} (h : w.heap[g]? = some (.cells #[v0, v1] t (0, 0))) : w.cell? ⟨g, 0, none⟩ = some v0 ∧ w.cell? ⟨g, 1, none⟩ = some v1 :=
  ⟨(blk_cell h 0).trans rfl, (blk_cell h 1).trans rfl⟩
theorem d2 {q : Prop} {w : World} {g : Nat} {t : TypeId} {v0 v1 : Value} (h : w.heap[g]? = some (.cells #[v0, v1] t (0, 0))) (r : q) : w.cell? ⟨g, 0, none⟩ = some v0 ∧ w.cell? ⟨g, 1, none⟩ = some v1 ∧ q :=
  ⟨(blk_cell h 0).trans rfl, (blk_cell h 1).trans rfl, r⟩
theorem c3 {w : World} {g : Nat} {t : TypeId} {v0 v1 v2 : Value} (h : w.heap[g]? = some (.cells #[v0, v1, v2] t (0, 0))) : w.cell? ⟨g, 0, none⟩ = some v0 ∧ w.cell? ⟨g, 1, none⟩ = some v1 ∧ w.cell? ⟨g, 2, none⟩ = some v2 :=
  ⟨(blk_cell h 0).trans rfl, (blk_cell h 1).trans rfl, (blk_cell h 2).trans rfl⟩
theorem d3 {q : Prop} {w : World} {g : Nat} {t : TypeId} {v0 v1 v2 : Value} (h : w.heap[g]? = some (.cells #[v0, v1, v2] t (0, 0))) (r : q) : w.cell? ⟨g, 0, none⟩ = some v0 ∧ w.cell? ⟨g, 1, none⟩ = some v1 ∧ w.cell? ⟨g, 2, none⟩ = some v2 ∧ q :=
  ⟨(blk_cell h 0).trans rfl, (blk_cell h 1).trans rfl, (blk_cell h 2).trans rfl, r⟩
theorem c4 {w : World} {g : Nat} {t : TypeId} {v0 v1 v2 v3 : Value} (h : w.heap[g]? = some (.cells #[v0, v1, v2, v3] t (0, 0))) : w.cell? ⟨g, 0, none⟩ = some v0 ∧ w.cell? ⟨g, 1, none⟩ = some v1 ∧ w.cell? ⟨g, 2, none⟩ = some v2 ∧ w.cell? ⟨g, 3, none⟩ = some v3 :=
  ⟨(blk_cell h 0).trans rfl, (blk_cell h 1).trans rfl, (blk_cell h 2).trans rfl, (blk_cell h 3).trans rfl⟩
theorem d4 {q : Prop} {w : World} {g : Nat} {t : TypeId} {v0 v1 v2 v3 : Value} (h : w.heap[g]? = some (.cells #[v0, v1, v2, v3] t (0, 0))) (r : q) : w.cell? ⟨g, 0, none⟩ = some v0 ∧ w.cell? ⟨g, 1, none⟩ = some v1 ∧ w.cell? ⟨g, 2, none⟩ = some v2 ∧ w.cell? ⟨g, 3, none⟩ = some v3 ∧ q :=
  ⟨(blk_cell h 0).trans rfl, (blk_cell h 1).trans rfl, (blk_cell h 2).trans rfl, (blk_cell h 3).trans rfl, r⟩
theorem c5 {w : World} {g : Nat} {t : TypeId} {v0 v1 v2 v3 v4 : Value} (h : w.heap[g]? = some (.cells #[v0, v1, v2, v3, v4] t (0, 0))) : w.cell? ⟨g, 0, none⟩ = some v0 ∧ w.cell? ⟨g, 1, none⟩ = some v1 ∧ w.cell? ⟨g, 2, none⟩ = some v2 ∧ w.cell? ⟨g, 3, none⟩ = some v3 ∧ w.cell? ⟨g, 4, none⟩ = some v4 :=
  ⟨(blk_cell h 0).trans rfl, (blk_cell h 1).trans rfl, (blk_cell h 2).trans rfl, (blk_cell h 3).trans rfl, (blk_cell h 4).trans rfl⟩
theorem d5 {q : Prop} {w : World} {g : Nat} {t : TypeId} {v0 v1 v2 v3 v4 : Value} (h : w.heap[g]? = some (.cells #[v0, v1, v2, v3, v4] t (0, 0))) (r : q) : w.cell? ⟨g, 0, none⟩ = some v0 ∧ w.cell? ⟨g, 1, none⟩ = some v1 ∧ w.cell? ⟨g, 2, none⟩ = some v2 ∧ w.cell? ⟨g, 3, none⟩ = some v3 ∧ w.cell? ⟨g, 4, none⟩ = some v4 ∧ q :=
  ⟨(blk_cell h 0).trans rfl, (blk_cell h 1).trans rfl, (blk_cell h 2).trans rfl, (blk_cell h 3).trans rfl, (blk_cell h 4).trans rfl, r⟩
theorem c6 {w : World} {g : Nat} {t : TypeId} {v0 v1 v2 v3 v4 v5 : Value} (h : w.heap[g]? = some (.cells #[v0, v1, v2, v3, v4, v5] t (0, 0))) : w.cell? ⟨g, 0, none⟩ = some v0 ∧ w.cell? ⟨g, 1, none⟩ = some v1 ∧ w.cell? ⟨g, 2, none⟩ = some v2 ∧ w.cell? ⟨g, 3, none⟩ = some v3 ∧ w.cell? ⟨g, 4, none⟩ = some v4 ∧ w.cell? ⟨g, 5, none⟩ = some v5 :=
  ⟨(blk_cell h 0).trans rfl, (blk_cell h 1).trans rfl, (blk_cell h 2).trans rfl, (blk_cell h 3).trans rfl, (blk_cell h 4).trans rfl, (blk_cell h 5).trans rfl⟩
theorem d6 {q : Prop} {w : World} {g : Nat} {t : TypeId} {v0 v1 v2 v3 v4 v5 : Value} (h : w.heap[g]? = some (.cells #[v0, v1, v2, v3, v4, v5] t (0, 0))) (r : q) : w.cell? ⟨g, 0, none⟩ = some v0 ∧ w.cell? ⟨g, 1, none⟩ = some v1 ∧ w.cell? ⟨g, 2, none⟩ = some v2 ∧ w.cell? ⟨g, 3, none⟩ = some v3 ∧ w.cell? ⟨g, 4, none⟩ = some v4 ∧ w.cell? ⟨g, 5, none⟩ = some v5 ∧ q :=
  ⟨(blk_cell h 0).trans rfl, (blk_cell h 1).trans rfl, (blk_cell h 2).trans rfl, (blk_cell h 3).trans rfl, (blk_cell h 4).trans rfl, (blk_cell h 5).trans rfl, r⟩
theorem c7 {w : World} {g : Nat} {t : TypeId} {v0 v1 v2 v3 v4 v5 v6 : Value} (h : w.heap[g]? = some (.cells #[v0, v1, v2, v3, v4, v5, v6] t (0, 0))) : w.cell? ⟨g, 0, none⟩ = some v0 ∧ w.cell? ⟨g, 1, none⟩ = some v1 ∧ w.cell? ⟨g, 2, none⟩ = some v2 ∧ w.cell? ⟨g, 3, none⟩ = some v3 ∧ w.cell? ⟨g, 4, none⟩ = some v4 ∧ w.cell? ⟨g, 5, none⟩ = some v5 ∧ w.cell? ⟨g, 6, none⟩ = some v6 :=
  ⟨(blk_cell h 0).trans rfl, (blk_cell h 1).trans rfl, (blk_cell h 2).trans rfl, (blk_cell h 3).trans rfl, (blk_cell h 4).trans rfl, (blk_cell h 5).trans rfl, (blk_cell h 6).trans rfl⟩
theorem d7 {q : Prop} {w : World} {g : Nat} {t : TypeId} {v0 v1 v2 v3 v4 v5 v6 : Value} (h : w.heap[g]? = some (.cells #[v0, v1, v2, v3, v4, v5, v6] t (0, 0))) (r : q) : w.cell? ⟨g, 0, none⟩ = some v0 ∧ w.cell? ⟨g, 1, none⟩ = some v1 ∧ w.cell? ⟨g, 2, none⟩ = some v2 ∧ w.cell? ⟨g, 3, none⟩ = some v3 ∧ w.cell? ⟨g, 4, none⟩ = some v4 ∧ w.cell? ⟨g, 5, none⟩ = some v5 ∧ w.cell? ⟨g, 6, none⟩ = some v6 ∧ q :=
  ⟨(blk_cell h 0).trans rfl, (blk_cell h 1).trans rfl, (blk_cell h 2).trans rfl, (blk_cell h 3).trans rfl, (blk_cell h 4).trans rfl, (blk_cell h 5).trans rfl, (blk_cell h 6).trans rfl, r⟩
theorem c8 {w : World} {g : Nat} {t : TypeId} {v0 v1 v2 v3 v4 v5 v6 v7 : Value} (h : w.heap[g]? = some (.cells #[v0, v1, v2, v3, v4, v5, v6, v7] t (0, 0))) : w.cell? ⟨g, 0, none⟩ = some v0 ∧ w.cell? ⟨g, 1, none⟩ = some v1 ∧ w.cell? ⟨g, 2, none⟩ = some v2 ∧ w.cell? ⟨g, 3, none⟩ = some v3 ∧ w.cell? ⟨g, 4, none⟩ = some v4 ∧ w.cell? ⟨g, 5, none⟩ = some v5 ∧ w.cell? ⟨g, 6, none⟩ = some v6 ∧ w.cell? ⟨g, 7, none⟩ = some v7 :=
  ⟨(blk_cell h 0).trans rfl, (blk_cell h 1).trans rfl, (blk_cell h 2).trans rfl, (blk_cell h 3).trans rfl, (blk_cell h 4).trans rfl, (blk_cell h 5).trans rfl, (blk_cell h 6).trans rfl, (blk_cell h 7).trans rfl⟩
theorem el7 {w : World} {g i : Nat} {v0 v1 v2 v3 v4 v5 v6 : Value} (hc : ∀ j u, ([v0, v1, v2, v3, v4, v5, v6] : List Value)[j]? = some u → w.cell? ⟨g, i * 7 + j, none⟩ = some u) (hf : ∀ j, w.frozen? ⟨g, i * 7 + j, none⟩ = false) : w.cell? ⟨g, i * 7, none⟩ = some v0 ∧ w.cell? ⟨g, i * 7 + 1, none⟩ = some v1 ∧ w.cell? ⟨g, i * 7 + 2, none⟩ = some v2 ∧ w.cell? ⟨g, i * 7 + 3, none⟩ = some v3 ∧ w.cell? ⟨g, i * 7 + 4, none⟩ = some v4 ∧ w.cell? ⟨g, i * 7 + 5, none⟩ = some v5 ∧ w.cell? ⟨g, i * 7 + 6, none⟩ = some v6 ∧ w.frozen? ⟨g, i * 7, none⟩ = false ∧ w.frozen? ⟨g, i * 7 + 1, none⟩ = false ∧ w.frozen? ⟨g, i * 7 + 2, none⟩ = false ∧ w.frozen? ⟨g, i * 7 + 3, none⟩ = false ∧ w.frozen? ⟨g, i * 7 + 4, none⟩ = false ∧ w.frozen? ⟨g, i * 7 + 5, none⟩ = false ∧ w.frozen? ⟨g, i * 7 + 6, none⟩ = false :=
  ⟨hc 0 _ rfl, hc 1 _ rfl, hc 2 _ rfl, hc 3 _ rfl, hc 4 _ rfl, hc 5 _ rfl, hc 6 _ rfl, hf 0, hf 1, hf 2, hf 3, hf 4, hf 5, hf 6⟩
theorem cel3 {w : World} {g : Nat} {t : TypeId} {v0 v1 v2 : Value} (h : w.heap[g]? = some (.cells #[v0, v1, v2] t (0, 0))) : w.cell? ⟨g, 0, none⟩ = some v0 ∧ w.cell? ⟨g, 1, none⟩ = some v1 ∧ w.cell? ⟨g, 2, none⟩ = some v2 ∧ w.frozen? ⟨g, 0, none⟩ = false ∧ w.frozen? ⟨g, 1, none⟩ = false ∧ w.frozen? ⟨g, 2, none⟩ = false :=
  ⟨(blk_cell h 0).trans rfl, (blk_cell h 1).trans rfl, (blk_cell h 2).trans rfl, blk_frozen h 0, blk_frozen h 1, blk_frozen h 2⟩
theorem cel7 {w : World} {g : Nat} {t : TypeId} {v0 v1 v2 v3 v4 v5 v6 : Value} (h : w.heap[g]? = some (.cells #[v0, v1, v2, v3, v4, v5, v6] t (0, 0))) : w.cell? ⟨g, 0, none⟩ = some v0 ∧ w.cell? ⟨g, 1, none⟩ = some v1 ∧ w.cell? ⟨g, 2, none⟩ = some v2 ∧ w.cell? ⟨g, 3, none⟩ = some v3 ∧ w.cell? ⟨g, 4, none⟩ = some v4 ∧ w.cell? ⟨g, 5, none⟩ = some v5 ∧ w.cell? ⟨g, 6, none⟩ = some v6 ∧ w.frozen? ⟨g, 0, none⟩ = false ∧ w.frozen? ⟨g, 1, none⟩ = false ∧ w.frozen? ⟨g, 2, none⟩ = false ∧ w.frozen? ⟨g, 3, none⟩ = false ∧ w.frozen? ⟨g, 4, none⟩ = false ∧ w.frozen? ⟨g, 5, none⟩ = false ∧ w.frozen? ⟨g, 6, none⟩ = false :=
  ⟨(blk_cell h 0).trans rfl, (blk_cell h 1).trans rfl, (blk_cell h 2).trans rfl, (blk_cell h 3).trans rfl, (blk_cell h 4).trans rfl, (blk_cell h 5).trans rfl, (blk_cell h 6).trans rfl, blk_frozen h 0, blk_frozen h 1, blk_frozen h 2, blk_frozen h 3, blk_frozen h 4, blk_frozen h 5, blk_frozen h 6⟩
end Go.Proofs.YtblcmcdifgclcaaGreat
