/- GridPlays: what its proof leads to. No condition. -/
import Derived.Test.YtblcmcdifgclcaaGreatG6qGridPlays
import Derived.Test.YtblcmcdifgclcaaGreatG23qGridPlays
import Derived.Test.YtblcmcdifgclcaaGreatG24qGridPlays
import Derived.Test.YtblcmcdifgclcaaGreatG34qGridPlays
namespace Go.Proofs.YtblcmcdifgclcaaGreat.Grd
open Go.RowKit Go.Proofs.YtblcmcdifgclcaaGreat Go.Proofs.YtblcmcdifgclcaaGreat.PGridPlays Go.Proofs.YtblcmcdifgclcaaGreatW.PrintWords Go.Proofs.YtblcmcdifgclcaaGreatW.PrintLast Go.Proofs.YtblcmcdifgclcaaGreatW.PrintMore
set_option linter.unusedVariables false
set_option linter.unusedSimpArgs false
set_option maxRecDepth 100000
set_option maxHeartbeats 4000000
def toL (L : List (List CS)) : List (List RC) := L.map (List.map toR)
theorem toL_len (L : List (List CS)) : (toL L).length = L.length := List.length_map ..
theorem toL_get {L : List (List CS)} {j : Nat} {l : List CS} (h : L[j]? = some l) : (toL L)[j]? = some (l.map toR) := by unfold toL; rw [List.getElem?_map, h]; rfl
theorem toL_set (L : List (List CS)) (n : Nat) (l : List CS) : toL (L.set n l) = (toL L).set n (l.map toR) := by unfold toL; rw [List.map_set]
theorem rd_toL {L : List (List CS)} {j : Nat} {l : List CS} (h : L[j]? = some l) : rd_L9 (toL L) (j : Int) = l.map toR := by unfold rd_L9; rw [Int.toNat_natCast, List.getD_eq_getElem?_getD, toL_get h]; rfl
theorem with_l (L : List (List CS)) (hL : L.length ≤ 512) (n : Nat) (l : List CS) (hl : l.length ≤ 1000) (r c : Int) : ∀ (d j k : Nat) (o : List (List RC)), j + d = L.length → o.length = j → d < k →
 prolepsisref07_with.l0 k (n : Int) (l.map toR) o (j : Int) (toL L) r c = some (o ++ ((toL L).set n (l.map toR)).drop j, r, c) := by
 intro d
 induction d with
 | zero =>
  intro j k o hj ho hk
  obtain ⟨k, rfl⟩ := kp hk
  rw [prolepsisref07_with.l0, toL_len, if_neg (by omega), List.drop_eq_nil_of_le (by rw [List.length_set, toL_len]; omega), List.append_nil]
 | succ d ih =>
  intro j k o hj ho hk
  obtain ⟨k, rfl⟩ := kp hk
  have hjl : j < L.length := by omega
  obtain ⟨y, hy⟩ : ∃ y, L[j]? = some y := ⟨_, List.getElem?_eq_getElem hjl⟩
  have hds : ∀ z, ((toL L).set n (l.map toR))[j]? = some z → ((toL L).set n (l.map toR)).drop j = z :: ((toL L).set n (l.map toR)).drop (j + 1) := fun z hz => by
   obtain ⟨hlt, he⟩ := List.getElem?_eq_some_iff.1 hz
   rw [List.drop_eq_getElem_cons hlt, he]
  rw [prolepsisref07_with.l0, toL_len, if_pos (by omega)]
  by_cases e : j = n
  ·subst e
   rw [if_pos rfl]
   simp only [Option.bind_some]
   rw [if_pos (by simp; omega), if_pos (by omega), w64 (by omega) (by omega), cast1, ih (j + 1) k _ (by omega) (by simp; omega) (by omega), hds (l.map toR) (by rw [List.getElem?_set_self (by rw [toL_len]; omega)])]
   simp
  ·rw [if_neg (by omega), if_pos (by omega), if_pos (by omega), w64 (by omega) (by omega), cast1, ih (j + 1) k _ (by omega) (by simp; omega) (by omega), hds (y.map toR) (by rw [List.getElem?_set_ne (by omega)]; exact toL_get hy), rd_toL hy]
   simp
theorem with_ok (L : List (List CS)) (hL : L.length ≤ 512) (n : Nat) (l : List CS) (hl : l.length ≤ 1000) (r c : Int) (k : Nat) (hk : 512 < k) : prolepsisref07_with.f k (toL L) r c (n : Int) (l.map toR) = some (toL (L.set n l), r, c) := by
 unfold prolepsisref07_with.f
 have := with_l L hL n l hl r c L.length 0 k [] (by omega) rfl (by omega)
 rw [List.nil_append, List.drop_zero] at this
 rw [toL_set]
 exact this
theorem Has_ok (L : List (List CS)) (a b r : Int) : prolepsisref07_Has.f (toL L) a b r = some (decide (0 ≤ r) && decide (r < L.length)) := by
 unfold prolepsisref07_Has.f
 by_cases h : r ≥ 0
 ·rw [if_pos h, toL_len, show decide (0 ≤ r) = true from decide_eq_true h, Bool.true_and]
 ·rw [if_neg h, show decide (0 ≤ r) = false from decide_eq_false (by omega), Bool.false_and]
theorem Cols_ok {G : GV} (h : G.ok) (a b : Int) : prolepsisref07_Cols.f (toL G.L) a b = some (G.cols : Int) := by
 unfold prolepsisref07_Cols.f
 have h1 := h.r1
 rw [toL_len, if_neg (by omega), if_pos (by omega)]
 obtain ⟨y, hy⟩ : ∃ y, G.L[0]? = some y := ⟨_, List.getElem?_eq_getElem (by omega)⟩
 have := rd_toL hy
 rw [show ((0 : Nat) : Int) = 0 from rfl] at this
 rw [this, List.length_map, h.len y (List.mem_of_getElem? hy)]
theorem bring_ok (x : Int) (n : Nat) (h1 : 1 ≤ n) (h2 : n ≤ 512) : prolepsisref07_bring.f x (n : Int) = some (gBring x n) := by
 unfold prolepsisref07_bring.f gBring mn mx
 rw [w64 (by omega) (by omega)]
 repeat' split
 all_goals (first | rfl | (congr 1; omega) | omega)
theorem rMove_ok {G : GV} (h : G.ok) (a b r c : Int) : prolepsisref07_Move.f (toL G.L) a b r c = some (gBring r G.L.length, gBring c G.cols) := by
 unfold prolepsisref07_Move.f
 have h1 := h.r1
 rw [toL_len, if_neg (by omega), bring_ok r _ h.r1 h.r2, Option.bind_some, Cols_ok h, Option.bind_some, bring_ok c _ h.c1 h.c2, Option.bind_some]
theorem rgNew_l (rows cols : Nat) (hr : rows ≤ 512) (a b : Int) : ∀ (d i k : Nat), i + d = rows → d + 600 < k → prolepsisref07_New.l0 k (rows : Int) (cols : Int) (i : Int) (toL (List.replicate i (List.replicate (lenC (cols : Int)) (blankP 0 0 0)))) a b = some (toL (List.replicate rows (List.replicate (lenC (cols : Int)) (blankP 0 0 0))), a, b) := by
 intro d
 induction d with
 | zero =>
  intro i k hi hk
  obtain ⟨k, rfl⟩ := kp (show 0 < k by omega)
  rw [prolepsisref07_New.l0, if_neg (by omega), show i = rows by omega]
 | succ d ih =>
  intro i k hi hk
  obtain ⟨k, rfl⟩ := kp (show 0 < k by omega)
  rw [prolepsisref07_New.l0, if_pos (by omega), rNew_ok _ k (by omega), Option.bind_some, toL_len, List.length_replicate, if_pos (by omega), w64 (by omega) (by omega), cast1]
  have := ih (i + 1) k (by omega) (by omega)
  rw [← this, List.replicate_succ']
  simp [toL]
theorem rgNew_ok (rows cols : Nat) (hr : rows ≤ 512) (k : Nat) (hk : 1200 < k) : prolepsisref07_New.f k (rows : Int) (cols : Int) = some (toL (gNew (rows : Int) (cols : Int)).L, 0, 0) := by
 unfold prolepsisref07_New.f
 have := rgNew_l rows cols hr 0 0 rows 0 k (by omega) (by omega)
 unfold gNew
 rw [Int.toNat_natCast, ← this]
 rfl
theorem rgSame_l (X Y : List (List CS)) (hx : X.length ≤ 512) (hl : ∀ l ∈ X, l.length ≤ 1000) (hxy : X.length = Y.length) (a b c d' : Int) : ∀ (d i k : Nat), i + d = X.length → d + 2000 < k → prolepsisref07_Same.l0 k (i : Int) (toL X) a b (toL Y) c d' = some (decide (X.drop i = Y.drop i)) := by
 intro d
 induction d with
 | zero =>
  intro i k hi hk
  obtain ⟨k, rfl⟩ := kp (show 0 < k by omega)
  rw [prolepsisref07_Same.l0, toL_len, if_neg (by omega), List.drop_eq_nil_of_le (by omega), List.drop_eq_nil_of_le (by omega)]
  rfl
 | succ d ih =>
  intro i k hi hk
  obtain ⟨k, rfl⟩ := kp (show 0 < k by omega)
  obtain ⟨x, h1⟩ : ∃ x, X[i]? = some x := ⟨_, List.getElem?_eq_getElem (by omega)⟩
  obtain ⟨y, h2⟩ : ∃ y, Y[i]? = some y := ⟨_, List.getElem?_eq_getElem (by omega)⟩
  have hxl := hl x (List.mem_of_getElem? h1)
  have d1 : X.drop i = x :: X.drop (i + 1) := by obtain ⟨hlt, he⟩ := List.getElem?_eq_some_iff.1 h1; rw [List.drop_eq_getElem_cons hlt, he]
  have d2 : Y.drop i = y :: Y.drop (i + 1) := by obtain ⟨hlt, he⟩ := List.getElem?_eq_some_iff.1 h2; rw [List.drop_eq_getElem_cons hlt, he]
  rw [prolepsisref07_Same.l0, toL_len, toL_len, if_pos (by omega), if_pos (by omega), if_pos (by omega), rd_toL h1, rd_toL h2, rSame_ok x y (by omega) k (by omega), Option.bind_some, d1, d2]
  by_cases e : x = y
  ·subst e
   rw [decide_eq_true rfl, if_pos rfl, w64 (by omega) (by omega), cast1, ih (i + 1) k (by omega) (by omega)]
   simp
  ·rw [decide_eq_false e, if_neg (by simp)]
   simp [e]
def rSameV (G G2 : GV) : Bool := decide (G.L = G2.L) && ((G.row == G2.row) && (G.col == G2.col))
theorem rgSame_ok (G G2 : GV) (h : G.ok) (k : Nat) (hk : 3000 < k) : prolepsisref07_Same.f k (toL G.L) G.row G.col (toL G2.L) G2.row G2.col = some (rSameV G G2) := by
 obtain ⟨k, rfl⟩ := kp (show 0 < k by omega)
 unfold prolepsisref07_Same.f rSameV
 rw [toL_len, toL_len]
 have jt : ∀ b, b = true → prolepsisref07_Same.j0 (k + 1) b (toL G.L) G.row G.col (toL G2.L) G2.row G2.col = some false := fun b hb => by rw [prolepsisref07_Same.j0, if_pos hb]
 by_cases a : G.L.length = G2.L.length
 ·rw [if_pos (by omega)]
  by_cases b : G.row = G2.row
  ·rw [if_pos b, b, beq_self_eq_true, Bool.true_and]
   by_cases c : G.col = G2.col
   ·rw [c, show (G2.col != G2.col) = false by simp, prolepsisref07_Same.j0, if_neg (by simp)]
    have := rgSame_l G.L G2.L h.r2 (fun l hl => by have := h.len l hl; have := h.c2; omega) a G2.row G2.col G2.row G2.col G.L.length 0 k (by omega) (by have := h.r2; omega)
    rw [List.drop_zero, List.drop_zero] at this
    rw [beq_self_eq_true, Bool.and_true]
    exact this
   ·have e := jt (G.col != G2.col) (by simpa using c)
    rw [b] at e
    rw [e, show (G.col == G2.col) = false from beq_eq_false_iff_ne.2 c, Bool.and_false]
  ·rw [if_neg b, jt true rfl, show (G.row == G2.row) = false from beq_eq_false_iff_ne.2 b, Bool.false_and, Bool.and_false]
 ·rw [if_neg (by omega), jt true rfl, show decide (G.L = G2.L) = false from decide_eq_false (fun e => a (by rw [e])), Bool.false_and]
abbrev gV (v : Value) (G : GV) : Value := .agg #[v, .int .i64 G.row, .int .i64 G.col]
abbrev gB (v : Value) (G : GV) : Obj := .cells #[v, .int .i64 G.row, .int .i64 G.col] 32 (0, 0)
abbrev gZ : Obj := .cells #[.slice none 0 0, .int .i64 0, .int .i64 0] 32 (0, 0)
structure QW (w W : World) (gs : List (Nat × Obj)) : Prop where
 hb : Below w.heap.size w W
 bx : ∀ p ∈ gs, W.heap[p.1]? = some p.2 ∧ w.heap.size ≤ p.1
 nd : (gs.map Prod.fst).Nodup
section
variable {w W W1 : World} {gs l1 l2 : List (Nat × Obj)} {g : Nat} {o o' : Obj}
theorem QW.new (w : World) : QW w w [] := ⟨Below.refl _ _, fun _ h => absurd h List.not_mem_nil, List.nodup_nil⟩
theorem QW.below (h : QW w W gs) (hb : Below W.heap.size W W1) : QW w W1 gs := ⟨below_then h.hb h.hb.size hb, fun p hp => ⟨blk_below (h.bx p hp).1 hb, (h.bx p hp).2⟩, h.nd⟩
theorem QW.box (h : QW w W gs) (hx : W1.heap[g]? = some o) (hg : g = W.heap.size) (hb : Below W.heap.size W W1) : QW w W1 ((g, o) :: gs) := by
 have h' := h.below hb
 refine ⟨h'.hb, fun p hp => ?_, ?_⟩
 ·rcases List.mem_cons.1 hp with rfl | hp
  ·exact ⟨hx, by rw [hg]; exact h.hb.size⟩
  ·exact h'.bx p hp
 ·rw [List.map_cons, List.nodup_cons]
  refine ⟨fun hm => ?_, h.nd⟩
  obtain ⟨p, hp, he⟩ := List.mem_map.1 hm
  have := blk_lt (h.bx p hp).1
  omega
theorem QW.store (h : QW w W (l1 ++ (g, o) :: l2)) (hx : W1.heap[g]? = some o') (hg : W.grownBy W1 (some g)) : QW w W1 (l1 ++ (g, o') :: l2) := by
 have hnd := h.nd
 rw [List.map_append, List.map_cons] at hnd
 have hgw := (h.bx (g, o) (by simp)).2
 have hne : ∀ p, p ∈ l1 ∨ p ∈ l2 → p.1 ≠ g := by
  rw [List.nodup_append] at hnd
  obtain ⟨n1, n2, n3⟩ := hnd
  rw [List.nodup_cons] at n2
  intro p hp e
  rcases hp with hp | hp
  ·exact n3 p.1 (List.mem_map.2 ⟨p, hp, rfl⟩) g (by simp) e
  ·exact n2.1 (List.mem_map.2 ⟨p, hp, e⟩)
 refine ⟨h.hb.grown hg h.hb.size (fun k hk => by injection hk with hk; rw [← hk]; exact hgw), fun p hp => ?_, by rw [List.map_append, List.map_cons]; exact hnd⟩
 rcases List.mem_append.1 hp with hp | hp
 ·exact ⟨blk_grown (h.bx p (List.mem_append_left _ hp)).1 hg (fun e => by injection e with e; exact hne p (.inl hp) e), (h.bx p (List.mem_append_left _ hp)).2⟩
 ·rcases List.mem_cons.1 hp with rfl | hp
  ·exact ⟨hx, hgw⟩
  ·exact ⟨blk_grown (h.bx p (List.mem_append_right _ (List.mem_cons_of_mem _ hp))).1 hg (fun e => by injection e with e; exact hne p (.inr hp) e), (h.bx p (List.mem_append_right _ (List.mem_cons_of_mem _ hp))).2⟩
theorem gcells {v : Value} {G : GV} (h : W.heap[g]? = some (gB v G)) : W.cell? ⟨g, 0, none⟩ = some v ∧ W.cell? ⟨g, 1, none⟩ = some (.int .i64 G.row) ∧ W.cell? ⟨g, 2, none⟩ = some (.int .i64 G.col) := ⟨(blk_cell h 0).trans rfl, (blk_cell h 1).trans rfl, (blk_cell h 2).trans rfl⟩
theorem rcells {x : CS} (h : W.heap[g]? = some (refB x)) : W.cell? ⟨g, 0, none⟩ = some (.int .i64 x.f0) ∧ W.cell? ⟨g, 1, none⟩ = some (.int .i64 x.f1.f0) ∧ W.cell? ⟨g, 2, none⟩ = some (.int .i64 x.f1.f1) ∧ W.cell? ⟨g, 3, none⟩ = some (.int .u8 x.f2) ∧ W.cell? ⟨g, 4, none⟩ = some (.int .u8 x.f3.f0) ∧ W.cell? ⟨g, 5, none⟩ = some (.int .u8 x.f3.f1) ∧ W.cell? ⟨g, 6, none⟩ = some (.int .u8 x.f3.f2) :=
 ⟨(blk_cell h 0).trans rfl, (blk_cell h 1).trans rfl, (blk_cell h 2).trans rfl, (blk_cell h 3).trans rfl, (blk_cell h 4).trans rfl, (blk_cell h 5).trans rfl, (blk_cell h 6).trans rfl⟩
end
theorem RD.row {W : World} {ok : Nat → Prop} {ad : Addr} {N c : Nat} {L : List (List CS)} (h : RD kRL W ok (.slice (some ad) N c) (toL L)) {n : Nat} {l : List CS} (hl : L[n]? = some l) :
 ∃ A' c', W.cell? (ad.add n) = some (.slice A' l.length c') ∧ l.length ≤ c' ∧ Kd.F kRC W ok A' l.length (l.map toR) := by
 obtain ⟨A, c0, he, hc, hF⟩ := h
 injection he with he1 he2 he3
 subst he1
 have hn := (List.getElem?_eq_some_iff.1 hl).1
 obtain ⟨ad', cs, h1, -, hK, hcc, -⟩ := Kd.F_get hF [] (n : Int) (by omega) (by rw [toL_len]; omega)
 injection h1 with h1
 subst h1
 rw [Int.toNat_natCast, List.getD_eq_getElem?_getD, toL_get hl, Option.getD_some] at hK
 obtain ⟨A', c', rfl, hc', hF'⟩ := Kd.FK_slice_open hK
 have := hcc 0 _ rfl
 rw [Int.toNat_natCast, show n * kRL.sz + 0 = n by show n * 1 + 0 = n; omega, List.length_map] at this
 rw [List.length_map] at hc' hF'
 exact ⟨A', c', this, hc', hF'⟩
end Go.Proofs.YtblcmcdifgclcaaGreat.Grd
