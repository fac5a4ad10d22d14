/- GridPlays: what its proof leads to. No condition. -/
import Derived.Test.YtblcmcdifgclcaaGreatG6qGridPlays
import Derived.Test.YtblcmcdifgclcaaGreatG23qGridPlays
import Derived.Test.YtblcmcdifgclcaaGreatG24qGridPlays
import Derived.Test.YtblcmcdifgclcaaGreatG33qGridPlays
import Derived.Test.YtblcmcdifgclcaaGreatG34qGridPlays
import Derived.Test.YtblcmcdifgclcaaGreatG36qGridPlays
import Derived.Test.YtblcmcdifgclcaaGreatG37qGridPlays
import Derived.Test.YtblcmcdifgclcaaGreatG41qGridPlays
import Derived.Test.YtblcmcdifgclcaaGreatG47qGridPlays
namespace Go.Proofs.YtblcmcdifgclcaaGreat.Grd
open Go.RowKit Go.Proofs.YtblcmcdifgclcaaGreat Go.Proofs.YtblcmcdifgclcaaGreat.PGridPlays Go.Proofs.YtblcmcdifgclcaaGreatW.PrintWords Go.Proofs.YtblcmcdifgclcaaGreatW.PrintLast Go.Proofs.YtblcmcdifgclcaaGreatW.PrintMore
set_option linter.unusedVariables false
set_option linter.unusedSimpArgs false
set_option maxRecDepth 100000
set_option maxHeartbeats 4000000
attribute [local go_sem] isSome_setCell max2_int min2_int max_two min_two
theorem rgRight_l (L : List (List CS)) (hL : L.length ≤ 512) (hl : ∀ l ∈ L, l.length ≤ 512 ∧ rightL l = true ∧ ∀ x ∈ l, W32 x) (a b : Int) : ∀ (d i k : Nat), i + d = L.length → d + 3000 < k → prolepsisref07_Right.l0 k (i : Int) (toL L) a b = some (decide ((L.length : Int) > 0)) := by
 intro d
 induction d with
 | zero =>
  intro i k hi hk
  obtain ⟨k, rfl⟩ : ∃ j, k = j + 1 := ⟨k - 1, by omega⟩
  rw [prolepsisref07_Right.l0, toL_len, if_neg (by omega)]
 | succ d ih =>
  intro i k hi hk
  obtain ⟨k, rfl⟩ : ∃ j, k = j + 1 := ⟨k - 1, by omega⟩
  obtain ⟨l, hx⟩ : ∃ l, L[i]? = some l := ⟨_, List.getElem?_eq_getElem (by omega)⟩
  obtain ⟨h1, h2, h3⟩ := hl l (List.mem_of_getElem? hx)
  rw [prolepsisref07_Right.l0, toL_len, if_pos (by omega), if_pos (by omega), rd_toL hx, rRightL_ok l h3 (by omega) k (by omega), Option.bind_some, h2, if_pos rfl, w64 (by omega) (by omega)]
  exact ih (i + 1) k (by omega) (by omega)
theorem rgRight_ok {G : GV} (h : G.ok) (a b : Int) : prolepsisref07_Right.f 6000 (toL G.L) a b = some true := by
 unfold prolepsisref07_Right.f
 have := rgRight_l G.L h.r2 (fun l hl => ⟨by rw [h.len l hl]; exact h.c2, h.rt l hl, h.w32 l hl⟩) a b G.L.length 0 6000 (by omega) (by have := h.r2; omega)
 rw [show ((0 : Nat) : Int) = 0 from rfl] at this
 rw [this, decide_eq_true (by have := h.r1; omega)]
theorem rAt_ok {G : GV} (h : G.ok) (a b r c : Int) : prolepsisref07_At.f (toL G.L) a b r c = some ((gAt G r c).1.f0, (gAt G r c).1.f1.f0, (gAt G r c).1.f1.f1, (gAt G r c).1.f2, (gAt G r c).1.f3.f0, (gAt G r c).1.f3.f1, (gAt G r c).1.f3.f2, (gAt G r c).2) := by
 unfold prolepsisref07_At.f
 rw [Has_ok, Option.bind_some, Cols_ok h, Option.bind_some]
 change (if gHas G r = true then _ else _) = _
 by_cases hr : gHas G r = true
 ·rw [if_pos hr]
  by_cases hc : c < 0
  ·rw [if_pos hc, show gAt G r c = (zC, false) by unfold gAt; rw [if_neg (by omega)]]
  ·rw [if_neg hc]
   by_cases hm : c ≥ G.cols
   ·rw [if_pos hm, show gAt G r c = (zC, false) by unfold gAt; rw [if_neg (by omega)]]
   ·rw [if_neg hm]
    obtain ⟨n, rfl, hn, hg⟩ := has_row hr
    obtain ⟨m, rfl⟩ : ∃ m : Nat, c = (m : Int) := ⟨c.toNat, by omega⟩
    have hlen := h.len _ (gLn_mem hr)
    rw [if_pos (by omega), if_pos (by rw [toL_len]; omega), if_pos (by omega), rd_toL hg, List.length_map, if_pos (by rw [hlen]; omega), rd_R _ m (by rw [hlen]; omega)]
    rw [show gAt G (n : Int) (m : Int) = (rd_T40 (gLn G (n : Int)) (m : Int), true) by unfold gAt; rw [if_pos ⟨hr, by omega, by omega⟩]]
    rfl
 ·rw [if_neg hr, show gAt G r c = (zC, false) by unfold gAt; rw [if_neg (fun h => hr h.1)]]
theorem rgRight_any {W : World} {ok : Nat → Prop} {A : Option Addr} {c N : Nat} {G : GV} (hk : G.ok) (h : RD kRL W ok (.slice A N c) (toL G.L)) : Calls Tryz.prog 12 #[gV (.slice A N c) G] W fun e w' => e = .returned (.bool true) ∧ Below W.heap.size W w' := by
 obtain ⟨A', c', he, hc, hF⟩ := h
 injection he with e1 e2 e3
 subst e1 e2 e3
 exact prolepsisref07_Right.calls 6000 A c (toL G.L) G.row G.col true W (Kd.F_now hF) hc (rgRight_ok hk _ _)
theorem rgAt_any {W : World} {ok : Nat → Prop} {A : Option Addr} {c N : Nat} {G : GV} (hk : G.ok) (h : RD kRL W ok (.slice A N c) (toL G.L)) (r q : Int) : Calls Tryz.prog 14 #[gV (.slice A N c) G, .int .i64 r, .int .i64 q] W fun e w' => e = .returned (.tuple #[refV (gAt G r q).1, .bool (gAt G r q).2]) ∧ Below W.heap.size W w' := by
 obtain ⟨A', c', he, hc, hF⟩ := h
 injection he with e1 e2 e3
 subst e1 e2 e3
 exact prolepsisref07_At.calls A c (toL G.L) G.row G.col r q _ _ _ _ _ _ _ _ W (Kd.F_now hF) hc (rAt_ok hk _ _ _ _)
theorem gAt_W32 {G : GV} (h : G.ok) (r c : Int) : W32 (gAt G r c).1 := by
 unfold gAt
 split
 ·rename_i hh
  obtain ⟨hr, h1, h2⟩ := hh
  have hlen := h.len _ (gLn_mem hr)
  obtain ⟨m, rfl⟩ : ∃ m : Nat, c = (m : Int) := ⟨c.toNat, by omega⟩
  exact h.w32 _ (gLn_mem hr) _ (List.mem_of_getElem? (rd_get _ m (by rw [hlen]; omega)))
 ·exact ⟨by decide, by decide, by decide, by decide⟩
theorem gLn_len {G : GV} (h : G.ok) (r : Int) : ((if gHas G r = true then gLn G r else []).length : Int) = if gHas G r = true then (G.cols : Int) else 0 := by
 split
 ·rename_i hr
  rw [h.len _ (gLn_mem hr)]
 ·rfl
structure PB (w W : World) (O d : Nat → Prop) (g : Nat) (G : GV) (v : Value) (gs : List (Nat × Obj)) : Prop where
 bel : Below w.heap.size w W
 p : PL w W O d g G v
 bx : ∀ q ∈ gs, W.heap[q.1]? = some q.2 ∧ w.heap.size ≤ q.1 ∧ ¬ O q.1 ∧ ¬ d q.1
 nd : (gs.map (·.1)).Nodup
section
variable {w W W1 W2 : World} {O d : Nat → Prop} {g b : Nat} {G G1 : GV} {v : Value} {gs gs' l1 l2 : List (Nat × Obj)} {o o' : Obj}
theorem PB.below (h : PB w W O d g G v gs) (hb : Below W.heap.size W W1) : PB w W1 O d g G v gs :=
 ⟨below_then h.bel h.bel.size hb, h.p.below hb, fun q hq => ⟨blk_below (h.bx q hq).1 hb, (h.bx q hq).2⟩, h.nd⟩
theorem PB.box (h : PB w W O d g G v gs) (hx : W1.heap[b]? = some o) (hg : b = W.heap.size) (hb : Below W.heap.size W W1) : PB w W1 O d g G v ((b, o) :: gs) := by
 have h' := h.below hb
 refine ⟨h'.bel, h'.p, fun q hq => ?_, ?_⟩
 ·rcases List.mem_cons.1 hq with rfl | hq
  ·exact ⟨hx, by show w.heap.size ≤ b; have := h.bel.size; omega, fun e => by have : b < W.heap.size := h.p.gr.ob b e; omega, fun e => by have : b < W.heap.size := h.p.db b e; omega⟩
  ·exact h'.bx q hq
 ·rw [List.map_cons, List.nodup_cons]
  refine ⟨fun hm => ?_, h.nd⟩
  obtain ⟨q, hq, e⟩ := List.mem_map.1 hm
  have h1 := blk_lt (h.bx q hq).1
  have h2 : q.1 = b := e
  omega
theorem PB.store (h : PB w W O d g G v (l1 ++ (b, o) :: l2)) (hx : W1.heap[b]? = some o') (hg : W.grownBy W1 (some b)) : PB w W1 O d g G v (l1 ++ (b, o') :: l2) := by
 have hnd := h.nd
 rw [List.map_append, List.map_cons] at hnd
 obtain ⟨-, hgw, hno, hnd2⟩ := h.bx (b, o) (by simp)
 have hgw' : w.heap.size ≤ b := hgw
 have hne : ∀ p, p ∈ l1 ∨ p ∈ l2 → p.1 ≠ b := by
  rw [List.nodup_append] at hnd
  obtain ⟨n1, n2, n3⟩ := hnd
  rw [List.nodup_cons] at n2
  intro p hp e
  rcases hp with hp | hp
  ·exact n3 p.1 (List.mem_map.2 ⟨p, hp, rfl⟩) b (by simp) e
  ·exact n2.1 (List.mem_map.2 ⟨p, hp, e⟩)
 refine ⟨h.bel.grown hg h.bel.size (fun k hk => by injection hk with hk; omega), h.p.grown hg hno hnd2, fun p hp => ?_, by rw [List.map_append, List.map_cons]; exact hnd⟩
 rcases List.mem_append.1 hp with hp | hp
 ·exact ⟨blk_grown (h.bx p (List.mem_append_left _ hp)).1 hg (fun e => by injection e with e; exact hne p (.inl hp) e), (h.bx p (List.mem_append_left _ hp)).2⟩
 ·rcases List.mem_cons.1 hp with rfl | hp
  ·exact ⟨hx, hgw, hno, hnd2⟩
  ·exact ⟨blk_grown (h.bx p (List.mem_append_right _ (List.mem_cons_of_mem _ hp))).1 hg (fun e => by injection e with e; exact hne p (.inr hp) e), (h.bx p (List.mem_append_right _ (List.mem_cons_of_mem _ hp))).2⟩
theorem PB.tail (h : PB w W O d g G v ((b, o) :: gs)) : PB w W O d g G v gs := ⟨h.bel, h.p, fun q hq => h.bx q (List.mem_cons_of_mem _ hq), (List.nodup_cons.1 h.nd).2⟩
theorem PB.do_ {A : Option Addr} {N c : Nat} {W' : World} (h : PB w W O d g G (.slice A N c) gs) (hb : Below W.heap.size W W') (a : AV) (ha : AW a) {Al : Option Addr} {Nl cl : Nat} (hN : Nl = a.l.length) (hcl : Nl ≤ cl) (hC : Kd.C kCl w Al Nl a.l) :
 Calls Tryz.prog 9 #[.pointer (some ⟨g, 0, none⟩), gV (.slice A N c) G, actV a Al Nl cl] W' fun e W1 => ∃ g' A' N' c' O' d', e = .returned (.tuple #[.pointer (some ⟨g', 0, none⟩), gV (.slice A' N' c') (doV G a), .bool true]) ∧ PB w W1 O' d' g' (doV G a) (.slice A' N' c') gs := by
 have h' := h.below hb
 have hs := h'.bel.size
 refine (Do_any h'.p.gr h'.p.rd h'.p.dn a ha h'.bel.size h'.p.on ⟨hN, hcl⟩ (fun W2 hb2 => Kd.C_below hC (h'.bel.trans hb2))).mono ?_
 intro e W1 hd
 obtain ⟨g', v', O', d', rfl, hp, hw, hO, hD⟩ := h'.p.act hs hd
 have hd' := hd
 obtain ⟨g9, v9, O9, he, -, -, -, hr9⟩ := hd'
 obtain ⟨A9, M9, c9, rfl⟩ := RD.slice hr9
 injection he with he
 injection he with he
 have he1 := congrArg (fun z : Array Value => z[1]?) he
 simp only [gV] at he1
 simp at he1
 subst he1
 refine ⟨g', A9, M9, c9, O', d', rfl, h'.bel.trans (hw.toBelow hs h'.p.on), hp, fun q hq => ?_, h.nd⟩
 obtain ⟨q1, q2, q3, q4⟩ := h'.bx q hq
 have hl := blk_lt q1
 exact ⟨hw.blk q1 q3, q2, fun e => (hO _ e).elim q3 (fun e => by omega), fun e => (hD _ e).elim q4 (fun e => by omega)⟩
end
end Go.Proofs.YtblcmcdifgclcaaGreat.Grd
