/- GridPlays: what its proof leads to. No condition. -/
import Derived.ProofKit
import Derived.OpenShut
import Derived.Test.YtblcmcdifgclcaaGreatG6qGridPlays
import Derived.Test.YtblcmcdifgclcaaGreatG23qGridPlays
import Derived.Test.YtblcmcdifgclcaaGreatG24qGridPlays
import Derived.Test.YtblcmcdifgclcaaGreatG26qGridPlays
import Derived.Test.YtblcmcdifgclcaaGreatG27qGridPlays
import Derived.Test.YtblcmcdifgclcaaGreatG29qGridPlays
import Derived.Test.YtblcmcdifgclcaaGreatG31qGridPlays
import Derived.Test.YtblcmcdifgclcaaGreatG33qGridPlays
import Derived.Test.YtblcmcdifgclcaaGreatG35qGridPlays
namespace Go.Proofs.YtblcmcdifgclcaaGreat.Grd
open Go.RowKit Go.Proofs.YtblcmcdifgclcaaGreat Go.Proofs.YtblcmcdifgclcaaGreat.PGridPlays Go.Proofs.YtblcmcdifgclcaaGreatW.PrintWords Go.Proofs.YtblcmcdifgclcaaGreatW.PrintLast Go.Proofs.YtblcmcdifgclcaaGreatW.PrintMore
set_option linter.unusedVariables false
set_option linter.unusedSimpArgs false
set_option maxRecDepth 100000
set_option maxHeartbeats 4000000
structure QO (O0 : Nat → Prop) (O : Nat → Prop) (w W : World) (g : Nat) (G : GV) (gs : List (Nat × Obj)) : Prop where
 gr : GS O W g G
 wr : Wr O0 w W
 sub : ∀ k, O k → O0 k ∨ w.heap.size ≤ k
 bx : ∀ p ∈ gs, W.heap[p.1]? = some p.2 ∧ w.heap.size ≤ p.1 ∧ ¬ O p.1
 nd : (gs.map Prod.fst).Nodup
section
variable {O0 O : Nat → Prop} {w W W1 : World} {g b : Nat} {G G1 : GV} {gs l1 l2 : List (Nat × Obj)} {o o' : Obj}
theorem QO.new (h : GS O w g G) : QO O O w w g G [] := ⟨h, Wr.refl _ _, fun _ hk => .inl hk, fun _ h => absurd h List.not_mem_nil, List.nodup_nil⟩
theorem QO.fresh (h : Fresh w W g G) (O0 : Nat → Prop) : QO O0 (fun k => w.heap.size ≤ k ∧ k < W.heap.size) w W g G [] := ⟨h.1, Wr.of_below h.2 _, fun _ hk => .inr hk.1, fun _ h => absurd h List.not_mem_nil, List.nodup_nil⟩
theorem QO.below (h : QO O0 O w W g G gs) (hb : Below W.heap.size W W1) : QO O0 O w W1 g G gs :=
 ⟨h.gr.below hb, h.wr.then_ hb, h.sub, fun p hp => ⟨blk_below (h.bx p hp).1 hb, (h.bx p hp).2⟩, h.nd⟩
theorem QO.box (h : QO O0 O w W g G gs) (hx : W1.heap[b]? = some o) (hg : b = W.heap.size) (hb : Below W.heap.size W W1) : QO O0 O w W1 g G ((b, o) :: gs) := by
 have h' := h.below hb
 refine ⟨h'.gr, h'.wr, h'.sub, fun p hp => ?_, ?_⟩
 ·rcases List.mem_cons.1 hp with rfl | hp
  ·exact ⟨hx, by rw [hg]; exact h.wr.size, fun hk => by have := h.gr.ob _ hk; have : b < W.heap.size := this; omega⟩
  ·exact h'.bx p hp
 ·rw [List.map_cons, List.nodup_cons]
  refine ⟨fun hm => ?_, h.nd⟩
  obtain ⟨p, hp, he⟩ := List.mem_map.1 hm
  have := blk_lt (h.bx p hp).1
  omega
theorem QO.store (h : QO O0 O w W g G (l1 ++ (b, o) :: l2)) (hx : W1.heap[b]? = some o') (hg : W.grownBy W1 (some b)) : QO O0 O w W1 g G (l1 ++ (b, o') :: l2) := by
 have hnd := h.nd
 rw [List.map_append, List.map_cons] at hnd
 obtain ⟨-, hgw, hno⟩ := h.bx (b, o) (by simp)
 have hne : ∀ p, p ∈ l1 ∨ p ∈ l2 → p.1 ≠ b := by
  rw [List.nodup_append] at hnd
  obtain ⟨n1, n2, n3⟩ := hnd
  rw [List.nodup_cons] at n2
  intro p hp e
  rcases hp with hp | hp
  ·exact n3 p.1 (List.mem_map.2 ⟨p, hp, rfl⟩) b (by simp) e
  ·exact n2.1 (List.mem_map.2 ⟨p, hp, e⟩)
 refine ⟨h.gr.step hg.size (fun k hk => hg.block k (h.gr.ob k hk) (fun e => by injection e with e; rw [e] at hk; exact hno hk)), h.wr.grown hg (fun k hk => by injection hk with hk; rw [← hk]; exact .inr hgw), h.sub, fun p hp => ?_, by rw [List.map_append, List.map_cons]; exact hnd⟩
 rcases List.mem_append.1 hp with hp | hp
 ·exact ⟨blk_grown (h.bx p (List.mem_append_left _ hp)).1 hg (fun e => by injection e with e; exact hne p (.inl hp) e), (h.bx p (List.mem_append_left _ hp)).2⟩
 ·rcases List.mem_cons.1 hp with rfl | hp
  ·exact ⟨hx, hgw, hno⟩
  ·exact ⟨blk_grown (h.bx p (List.mem_append_right _ (List.mem_cons_of_mem _ hp))).1 hg (fun e => by injection e with e; exact hne p (.inr hp) e), (h.bx p (List.mem_append_right _ (List.mem_cons_of_mem _ hp))).2⟩
theorem QO.did (h : QO O0 O w W g G gs) (hd : Did O W W1 g G1) : ∃ O', (∀ k, O' k → O k ∨ W.heap.size ≤ k) ∧ QO O0 O' w W1 g G1 gs := by
 obtain ⟨O', h1, h2, h3⟩ := hd
 refine ⟨O', h2, h1, h.wr.trans h3 h.sub, fun k hk => (h2 k hk).elim (h.sub k) (fun e => .inr (Nat.le_trans h.wr.size e)), fun p hp => ?_, h.nd⟩
 obtain ⟨a1, a2, a3⟩ := h.bx p hp
 exact ⟨h3.blk a1 a3, a2, fun hk => (h2 _ hk).elim a3 (fun e => by have := blk_lt a1; omega)⟩
theorem ccells {x : CS} (h : W.heap[b]? = some (cellB x)) : W.cell? ⟨b, 0, none⟩ = some (.int .i32 x.f0) ∧ W.cell? ⟨b, 1, none⟩ = some (.int .i32 x.f1.f0) ∧ W.cell? ⟨b, 2, none⟩ = some (.int .i32 x.f1.f1) ∧ W.cell? ⟨b, 3, none⟩ = some (.int .u8 x.f2) ∧ W.cell? ⟨b, 4, none⟩ = some (.int .u8 x.f3.f0) ∧ W.cell? ⟨b, 5, none⟩ = some (.int .u8 x.f3.f1) ∧ W.cell? ⟨b, 6, none⟩ = some (.int .u8 x.f3.f2) :=
 ⟨(blk_cell h 0).trans rfl, (blk_cell h 1).trans rfl, (blk_cell h 2).trans rfl, (blk_cell h 3).trans rfl, (blk_cell h 4).trans rfl, (blk_cell h 5).trans rfl, (blk_cell h 6).trans rfl⟩
end
section
theorem eqPenG (d : Nat) (w : World) (x0 y0 : Int) (x1 y1 : Int) (x2 y2 : Int) :
 (Op.equalIn (d + 2) 38 (.agg #[.int .u8 x0, .int .u8 x1, .int .u8 x2]) (.agg #[.int .u8 y0, .int .u8 y1, .int .u8 y2])).run Tryz.prog w = .ok (x0 == y0 && (x1 == y1 && (x2 == y2))) w := by
 refine eqA_of Tryz.underlying38 (by kernel_rfl) ?_
 refine eqf_cons (by rfl) (by go_simp; rfl) (by go_simp; rfl) (by go_simp) ?_
 refine eqf_cons (by rfl) (by go_simp; rfl) (by go_simp; rfl) (by go_simp) ?_
 exact eqf_last (by rfl) (by go_simp; rfl) (by go_simp; rfl) (by go_simp)
theorem eqArrG (d : Nat) (w : World) (x0 y0 : Int) (x1 y1 : Int) :
 (Op.equalIn (d + 2) 36 (.agg #[.int .i32 x0, .int .i32 x1]) (.agg #[.int .i32 y0, .int .i32 y1])).run Tryz.prog w = .ok (x0 == y0 && (x1 == y1)) w :=
 eqArr2 d 36 21 .i32 Tryz.underlying36 Tryz.underlying21 (by kernel_rfl) x0 y0 x1 y1 w
theorem eqCellG (d : Nat) (w : World) (x0 y0 : Int) (x1 y1 : Int) (x2 y2 : Int) (x3 y3 : Int) (x4 y4 : Int) (x5 y5 : Int) (x6 y6 : Int) :
 (Op.equalIn (d + 3) 40 (.agg #[.int .i32 x0, .int .i32 x1, .int .i32 x2, .int .u8 x3, .int .u8 x4, .int .u8 x5, .int .u8 x6]) (.agg #[.int .i32 y0, .int .i32 y1, .int .i32 y2, .int .u8 y3, .int .u8 y4, .int .u8 y5, .int .u8 y6])).run Tryz.prog w = .ok (x0 == y0 && ((x1 == y1 && (x2 == y2)) && (x3 == y3 && ((x4 == y4 && (x5 == y5 && (x6 == y6))))))) w := by
 have hu24 := Tryz.underlying38
 have hu22 := Tryz.underlying36
 refine eqA_of Tryz.underlying40 (by kernel_rfl) ?_
 refine eqf_cons (by rfl) (by go_simp; rfl) (by go_simp; rfl) (by go_simp) ?_
 refine eqf_cons (by rfl) (by go_simp) (by go_simp) (eqArrG (d + 0) w _ _ _ _) ?_
 refine eqf_cons (by rfl) (by go_simp; rfl) (by go_simp; rfl) (by go_simp) ?_
 exact eqf_last (by rfl) (by go_simp) (by go_simp) (eqPenG (d + 0) w _ _ _ _ _ _)
end
end Go.Proofs.YtblcmcdifgclcaaGreat.Grd
namespace Go.Proofs.YtblcmcdifgclcaaGreat.Grd
open Go.RowKit Go.Proofs.YtblcmcdifgclcaaGreat Go.Proofs.YtblcmcdifgclcaaGreat.PGridPlays Go.Proofs.YtblcmcdifgclcaaGreatW.PrintWords Go.Proofs.YtblcmcdifgclcaaGreatW.PrintLast Go.Proofs.YtblcmcdifgclcaaGreatW.PrintMore
set_option linter.unusedVariables false
set_option linter.unusedSimpArgs false
set_option maxRecDepth 100000
set_option maxHeartbeats 4000000
abbrev kC : CS := ⟨97, ⟨0, 0⟩, 1, ⟨0, 0, 0⟩⟩
theorem kc_of : cell_Of.f 97 0 0 0 = some (97, 0, 0, 1, 0, 0, 0, true) := by kernel_rfl
theorem kc_size : gSize 2 3 = true := by decide +kernel
theorem kc_put : (gPut (gNew 2 3) 0 0 kC).2 = true := by decide +kernel
theorem kc_pen : penR 0 0 0 = true := by decide +kernel
theorem kc_at : gAt (gScroll (gPut (gNew 2 3) 0 0 kC).1 (-1) 0 0 0) 1 0 = (kC, true) := by decide +kernel
theorem kc_fsize : gSize 1 2 = true := by decide +kernel
theorem kc_rows : (gFit (gScroll (gPut (gNew 2 3) 0 0 kC).1 (-1) 0 0 0) 1 2).L.length = 1 := by decide +kernel
theorem kc_cols : (gFit (gScroll (gPut (gNew 2 3) 0 0 kC).1 (-1) 0 0 0) 1 2).cols = 2 := by decide +kernel
theorem kc_has : gHas (gFit (gScroll (gPut (gNew 2 3) 0 0 kC).1 (-1) 0 0 0) 1 2) 0 = true := by decide +kernel
theorem kc_used : line_Used.f 10 (gLn (gFit (gScroll (gPut (gNew 2 3) 0 0 kC).1 (-1) 0 0 0) 1 2) 0) = some 0 := by kernel_rfl
end Go.Proofs.YtblcmcdifgclcaaGreat.Grd
namespace Go.Proofs.YtblcmcdifgclcaaGreat.Grd
open Go.RowKit Go.Proofs.YtblcmcdifgclcaaGreat Go.Proofs.YtblcmcdifgclcaaGreat.PGridPlays Go.Proofs.YtblcmcdifgclcaaGreatW.PrintWords Go.Proofs.YtblcmcdifgclcaaGreatW.PrintLast Go.Proofs.YtblcmcdifgclcaaGreatW.PrintMore
set_option linter.unusedVariables false
set_option linter.unusedSimpArgs false
set_option maxRecDepth 100000
set_option maxHeartbeats 4000000
attribute [local go_sem] isSome_setCell max2_int min2_int max_two min_two
attribute [local go_sem high] eqCellG
theorem w32_kC : W32 kC := by simp [W32]
theorem known_any (w : World) : Calls Tryz.prog 7 #[] w fun e w' => e = .returned (.bool true) ∧ Below w.heap.size w w' := by
 obtain ⟨G0, hG0⟩ : ∃ G0, gNew 2 3 = G0 := ⟨_, rfl⟩
 have e1 := kc_put
 have e2 := kc_at
 have e3 := kc_rows
 have e4 := kc_cols
 have e5 := kc_has
 have e6 := kc_used
 rw [hG0] at e1 e2 e3 e4 e5 e6
 obtain ⟨p1, hp1⟩ : ∃ p, gPut G0 0 0 kC = p := ⟨_, rfl⟩
 rw [hp1] at e1 e2 e3 e4 e5 e6
 obtain ⟨G1, b1⟩ := p1
 obtain rfl : b1 = true := e1
 obtain ⟨G2, hG2⟩ : ∃ G2, gScroll G1 (-1) 0 0 0 = G2 := ⟨_, rfl⟩
 dsimp only at e2 e3 e4 e5 e6
 rw [hG2] at e2 e3 e4 e5 e6
 obtain ⟨G3, hG3⟩ : ∃ G3, gFit G2 1 2 = G3 := ⟨_, rfl⟩
 rw [hG3] at e3 e4 e5 e6
 obtain ⟨l3, hl3⟩ : ∃ l3, gLn G3 0 = l3 := ⟨_, rfl⟩
 rw [hl3] at e6
 have HG0 := aS hG0
 have HG1 := aS hp1
 have HG2 := aS hG2
 have HG3 := aS hG3
 have HL3 := aS hl3
 have HA := aS e2
 have HN := aS (And.intro e3 e4)
 have HU := aS (And.intro e5 e6)
 clear hG0 hp1 hG2 hG3 hl3 e2 e3 e4 e5 e6
 go_enter Tryz.func7, Tryz.ntmps7
 go_wp2_with (first | (go_at_call 5; go_must (refine (New_any 2 3 kc_size w).mono ?_); rintro e w1 ⟨g, rfl, hF⟩; rw [HG0.out] at hF; have Q1 := aS (QO.fresh hF (fun _ => False)); clear hF) | (go_at_call 22; go_must (refine (cell_Of.calls 97 0 0 0 _ _ _ _ _ _ _ _ w1 kc_of).mono ?_); rintro e w2 ⟨rfl, hb⟩; have Q2 := aS (Q1.out.below hb); clear hb) | (refine bx 3 #[.int .i32 0, .int .i32 0, .int .i32 0, .int .u8 0, .int .u8 0, .int .u8 0, .int .u8 0] 40 ?_; intro g3 hg_ w3 hx_ hb_; go_must (have Q3 := aS (QO.box (o := cellB zC) Q2.out hx_ hg_ hb_)); clear hg_ hx_ hb_) | ((with_reducible refine gate_store (t := 40) (p := 3) rfl ?_); go_must (refine step_whole (.tmp 3) (.tmp 23) rfl rfl rfl rfl rfl (Q3.out.bx (g3, cellB zC) (by simp)).1 rfl (by kernel_rfl) (by simp [Value.oneCell']; done) ?_); intro w4 hx_ hg_; go_must (have Q4 := aS (QO.store (l1 := []) (l2 := []) (o' := cellB kC) Q3.out hx_ hg_)); clear hx_ hg_; obtain ⟨c0, c1, c2, c3, c4, c5, c6⟩ := ccells (Q4.out.bx (g3, cellB kC) (by simp)).1) | (go_at_call 23; go_must (refine (Put_any Q4.out.gr 0 0 ⟨by omega, by omega⟩ kC w32_kC).mono ?_); rintro e w5 ⟨rfl, hd⟩; rw [HG1.out] at hd ⊢; obtain ⟨O5, -, q5⟩ := Q4.out.did hd; have Q5 := aS q5; clear hd q5 c0 c1 c2 c3 c4 c5 c6) | (go_at_call 24; go_must (refine (Scroll_any Q5.out.gr (-1) 0 0 0 ⟨by omega, by omega⟩ kc_pen).mono ?_); rintro e w6 ⟨rfl, hd⟩; rw [HG2.out] at hd; obtain ⟨O6, -, q6⟩ := Q5.out.did hd; have Q6 := aS q6; clear hd q6) | (go_at_call 13; go_must (refine (At_any Q6.out.gr 1 0).mono ?_); rintro e w7 ⟨rfl, hb⟩; rw [HA.out]; have Q7 := aS (Q6.out.below hb); clear hb) | (refine bx 6 #[.int .i32 0, .int .i32 0, .int .i32 0, .int .u8 0, .int .u8 0, .int .u8 0, .int .u8 0] 40 ?_; intro g6 hg_ w8 hx_ hb_; go_must (have Q8 := aS (QO.box (o := cellB zC) Q7.out hx_ hg_ hb_)); clear hg_ hx_ hb_) | ((with_reducible refine gate_store (t := 40) (p := 6) rfl ?_); go_must (refine step_whole (.tmp 6) (.tmp 34) rfl rfl rfl rfl rfl (Q8.out.bx (g6, cellB zC) (by simp)).1 rfl (by kernel_rfl) (by simp [Value.oneCell']; done) ?_); intro w9 hx_ hg_; go_must (have Q9 := aS (QO.store (l1 := []) (l2 := [(g3, cellB kC)]) (o' := cellB kC) Q8.out hx_ hg_)); clear hx_ hg_) | (go_at_call 25; go_must (refine (Fit_any Q9.out.gr 1 2 kc_fsize).mono ?_); rintro e w10 ⟨f, rfl, hF⟩; rw [HG3.out] at hF; have Q10 := aS (Q9.out.below hF.2); have HF := aS hF; clear hF; obtain ⟨c0, c1, c2, c3, c4, c5, c6⟩ := ccells (Q10.out.bx (g3, cellB kC) (by simp)).1; obtain ⟨d0, d1, d2, d3, d4, d5, d6⟩ := ccells (Q10.out.bx (g6, cellB kC) (by simp)).1) | (go_at_call 26; go_must (refine (Rows_any HF.out.1).mono ?_); rintro e w11 ⟨rfl, rfl⟩; rw [HN.out.1]) | (go_at_call 27; go_must (refine (Cols_any HF.out.1).mono ?_); rintro e w12 ⟨rfl, rfl⟩; rw [HN.out.2]) | (go_at_call 16; go_must (refine (Line_any HF.out.1 0).mono ?_); rintro e w13 ⟨v, rfl, hR, hb⟩; rw [if_pos HU.out.1, HL3.out] at hR; obtain ⟨A, cc, rfl, hc, -⟩ := Kd.R_reads hR; have HV := aS (And.intro (Kd.F_now (Kd.R_F hR)) hc); have Q13 := aS (Q10.out.below hb); clear hR hb hc) | (go_at_call 28; go_must (refine (line_Used.calls 10 A cc l3 0 _ HV.out.1 HV.out.2 HU.out.2).mono ?_); rintro e w14 ⟨rfl, hb⟩; have Q14 := aS (Q13.out.below hb); clear hb))
 all_goals go_ret
 all_goals exact ⟨rfl, Q14.out.wr.toBelow (Nat.le_refl _) (fun k hk => hk.elim)⟩
end Go.Proofs.YtblcmcdifgclcaaGreat.Grd
namespace Go.Proofs.YtblcmcdifgclcaaGreat
open Go.RowKit Go.Proofs.YtblcmcdifgclcaaGreatW.PrintWords
def Opn (P : Program) (t : TypeId) {α : Type} (d : Kd α) (Q : α → Prop) : Prop :=
 ∀ {H : Type} (enc : TypeId × Value → H) (w : World) (base : Nat) (spare : Nat → Bool) (held : Bool) (fuel : Nat) (cs : List Value) (x : DataW H × List MemPlace), DataW.trod enc P w base spare held fuel t cs = some x → ∃ a : α, d.K w a cs ∧ Q a
theorem Opn.int {P : Program} {t : TypeId} {k : IntKind} (ht : P.underlying t = some (.int k)) : Opn P t (Kd.int k) (fun n => (Lit.int k n).wf = true) := by
 intro H enc w base spare held fuel cs x h
 obtain ⟨n, rfl, _, hw⟩ := DataW.trod_int ht h
 exact ⟨n, rfl, hw⟩
theorem choose_list {α : Type} {R : Nat → α → Prop} : ∀ n, (∀ i, i < n → ∃ a, R i a) → ∃ l : List α, l.length = n ∧ ∀ i a, l[i]? = some a → R i a
 | 0, _ => ⟨[], rfl, fun i a h => by simp at h⟩
 | n + 1, h => by
  obtain ⟨l, hl, hr⟩ := choose_list n (fun i hi => h i (by omega))
  obtain ⟨a, ha⟩ := h n (by omega)
  refine ⟨l ++ [a], by simp [hl], fun i b hb => ?_⟩
  rcases Nat.lt_or_ge i l.length with hi | hi
  ·rw [List.getElem?_append_left hi] at hb
   exact hr i b hb
  ·have hin : i = n := by
    have := (List.getElem?_eq_some_iff.1 hb).1
    rw [List.length_append, List.length_singleton] at this
    omega
   subst hin
   rw [← hl] at hb
   simp at hb
   subst hb
   exact ha
theorem Opn.slice {P : Program} {t e : TypeId} {α : Type} {d : Kd α} {Q : α → Prop} (ht : P.underlying t = some (.slice e)) (hc : P.cellsOf e = d.sz) (he : Opn P e d Q) : Opn P t (Kd.slice e d) (fun xs => ∀ a ∈ xs, Q a) := by
 intro H enc w base spare held fuel cs x h
 rcases DataW.trod_slice ht h with ⟨rfl, _⟩ | ⟨a, len, cap, elems, rest, n, _, rfl, _, hb, hl, hm, hlen, hel, _, _⟩
 ·exact ⟨[], ⟨none, 0, rfl, Nat.le_refl _, Kd.C_nil d w⟩, fun a ha => by cases ha⟩
 ·have each : ∀ i, i < len → ∃ y : α, (∃ c, w.cells? base (a.add (i * P.cellsOf e)) (P.cellsOf e) = some c ∧ d.K w y c) ∧ Q y := by
   intro i hi
   have h1 := hel i hi
   rw [List.getElem?_eq_getElem (by omega)] at h1
   obtain ⟨c, hc1, hc2⟩ := Option.bind_eq_some_iff.1 h1
   obtain ⟨y, hk, hq⟩ := he enc w base spare held n c _ hc2
   exact ⟨y, ⟨c, hc1, hk⟩, hq⟩
  obtain ⟨l, hll, hr⟩ := choose_list len each
  have hmm : len ≤ 9223372036854775807 := by unfold maxLen at hm; omega
  refine ⟨l, ⟨some a, cap, by rw [hll], by omega, ⟨rfl, by omega, fun _ => ⟨a, rfl, fun j p hj => ?_⟩⟩⟩, fun y hy => ?_⟩
  ·obtain ⟨⟨c, hc1, hk⟩, _⟩ := hr j p hj
   refine ⟨c, d.K_len hk, hk, fun i u hu => ?_⟩
   obtain ⟨hbb, hlc, hcell⟩ := World.cells?_some hc1
   have hi := (List.getElem?_eq_some_iff.1 hu).1
   have h2 := hcell i (by omega)
   rw [hc, add_add] at h2
   rw [h2, hu]
  ·obtain ⟨i, hi⟩ := List.getElem?_of_mem hy
   exact (hr i y hi).2
theorem Opn.array {P : Program} {t e : TypeId} {α : Type} {n : Nat} {d : Kd α} {Q : α → Prop} (hs : 0 < d.sz) (ht : P.underlying t = some (.array n e)) (hct : P.cellsOf t = n * d.sz) (hc : P.cellsOf e = d.sz) (he : Opn P e d Q) : Opn P t (Kd.arr n d hs) (fun xs => ∀ a ∈ xs, Q a) := by
 intro H enc w base spare held fuel cs x h
 obtain ⟨xs, m, _, _, hlen, hxl, hel⟩ := DataW.trod_array ht h
 have each : ∀ i, i < n → ∃ y : α, d.K w y ((cs.drop (i * d.sz)).take d.sz) ∧ Q y := by
  intro i hi
  have h1 := hel i hi
  rw [List.getElem?_eq_getElem (by omega), hc] at h1
  obtain ⟨y, hk, hq⟩ := he enc w base spare held m _ _ h1
  exact ⟨y, hk, hq⟩
 obtain ⟨l, hll, hr⟩ := choose_list n each
 refine ⟨l, ⟨hll, by rw [hlen, hct, hll], fun j p hj => (hr j p hj).1⟩, fun y hy => ?_⟩
 obtain ⟨i, hi⟩ := List.getElem?_of_mem hy
 exact (hr i y hi).2
def Flds (P : Program) (fs : List Field) (off : Nat) {α : Type} (d : Kd α) (Q : α → Prop) : Prop :=
 ∀ {H : Type} (enc : TypeId × Value → H) (w : World) (base : Nat) (spare : Nat → Bool) (held : Bool) (n : Nat) (cs : List Value) (xs : List (DataW H × List MemPlace)), cs.length = off + d.sz → (∀ (i : Nat) (f : Field), fs[i]? = some f → DataW.trod enc P w base spare held n f.type ((cs.drop f.offset).take (P.cellsOf f.type)) = xs[i]?) → xs.length = fs.length → ∃ a : α, d.K w a (cs.drop off) ∧ Q a
theorem Flds.one {P : Program} {f : Field} {off : Nat} {α : Type} {d : Kd α} {Q : α → Prop} (h : Opn P f.type d Q) (c : f.offset = off ∧ P.cellsOf f.type = d.sz) : Flds P [f] off d Q := by
 intro H enc w base spare held n cs xs hl hel hx
 have e0 := hel 0 f rfl
 simp at hx
 rw [List.getElem?_eq_getElem (by omega), c.1, c.2] at e0
 obtain ⟨a, ka, qa⟩ := h enc w base spare held n _ _ e0
 rw [List.take_of_length_le (by rw [List.length_drop]; omega)] at ka
 exact ⟨a, ka, qa⟩
theorem Flds.cons {P : Program} {f : Field} {fs : List Field} {off : Nat} {α β : Type} {d : Kd α} {d' : Kd β} {Q : α → Prop} {Q' : β → Prop} (h : Opn P f.type d Q) (c : f.offset = off ∧ P.cellsOf f.type = d.sz) (hr : Flds P fs (off + d.sz) d' Q') : Flds P (f :: fs) off (Kd.pair d d') (fun x => Q x.1 ∧ Q' x.2) := by
 intro H enc w base spare held n cs xs hl hel hx
 have e0 := hel 0 f rfl
 simp at hx
 have hl' : cs.length = off + d.sz + d'.sz := by rw [hl]; simp [Kd.pair]; omega
 rw [List.getElem?_eq_getElem (by omega), c.1, c.2] at e0
 obtain ⟨a, ka, qa⟩ := h enc w base spare held n _ _ e0
 obtain ⟨b, kb, qb⟩ := hr enc w base spare held n cs (xs.drop 1) hl' (fun i g hg => by rw [List.getElem?_drop, Nat.add_comm]; exact hel (i + 1) g (by simpa using hg)) (by simp [hx])
 refine ⟨(a, b), ⟨_, _, ?_, ka, kb⟩, qa, qb⟩
 rw [← List.drop_drop, List.take_append_drop]
theorem Opn.struct {P : Program} {t : TypeId} {fs : Array Field} {α : Type} {d : Kd α} {Q : α → Prop} (ht : P.underlying t = some (.struct fs)) (hct : P.cellsOf t = d.sz) (h : Flds P fs.toList 0 d Q) : Opn P t d Q := by
 intro H enc w base spare held fuel cs x hx
 obtain ⟨xs, n, _, _, hlen, hxl, hel⟩ := DataW.trod_struct ht hx
 obtain ⟨a, ka, qa⟩ := h enc w base spare held n cs xs (by omega) (fun i f hf => hel i f (by simpa using hf)) (by simpa using hxl)
 exact ⟨a, by simpa using ka, qa⟩
theorem open_sl {H : Type} {enc : TypeId × Value → H} {P : Program} {W : World} {t e : TypeId} {α : Type} {d : Kd α} {Q : α → Prop} (ho : Opn P t (Kd.slice e d) (fun xs => ∀ a ∈ xs, Q a)) {a : Option Addr} {len cap : Nat} {x : DataW H} {ps : List MemPlace} {spare : Nat → Bool} {held : Bool} {base : Nat}
 (h : DataW.Trod enc P W base spare held t (.slice a len cap) x ps) : ∃ l : List α, len = l.length ∧ d.C W a l.length l ∧ l.length ≤ cap ∧ ∀ y ∈ l, Q y := by
 obtain ⟨fuel, hf⟩ := h
 obtain ⟨l, ⟨A, c, he, hlc, hC⟩, hq⟩ := ho enc W base spare held fuel _ _ hf
 simp [Value.cells] at he
 obtain ⟨rfl, rfl, rfl⟩ := he
 exact ⟨l, rfl, hC, hlc, hq⟩
end Go.Proofs.YtblcmcdifgclcaaGreat
