/- GridNil: what its proof leads to. No condition. -/
import Derived.Test.YtblcmcdifgclcaaGrYqGridNil
namespace Go.Proofs.Ytblcmcdifgclcaa.Grd
open Go.RowKit Go.Proofs.Ytblcmcdifgclcaa Go.Proofs.Ytblcmcdifgclcaa.PGridSame Go.Proofs.YtblcmcdifgclcaaW.PrintWords Go.Proofs.YtblcmcdifgclcaaW.PrintLast Go.Proofs.YtblcmcdifgclcaaW.PrintMore
set_option linter.unusedVariables false
set_option linter.unusedSimpArgs false
set_option maxRecDepth 100000
set_option maxHeartbeats 4000000
attribute [local go_sem] max2_int min2_int max_two min_two
attribute [local go_sem high] eqCellG
theorem w32_kC : W32 kC := by simp [W32]
theorem known_any (w : World) : Calls Try.prog 64 #[] w fun e w' => e = .returned (.bool true) ∧ Below w.heap.size w w' := by
  obtain ⟨G0, hG0⟩ : ∃ G0, gNew 2 3 = G0 := ⟨_, rfl⟩
  have e1 := kc_put
  have e2 := kc_at
  have e3 := kc_rows
  have e4 := kc_cols
  have e5 := kc_has
  have e6 := kc_used
  rw [hG0] at e1 e2 e3 e4 e5 e6
  obtain ⟨p1, hp1⟩ : ∃ p, gPut G0 0 0 kC = p := ⟨_, rfl⟩
  rw [hp1] at e1 e2 e3 e4 e5 e6
  obtain ⟨G1, b1⟩ := p1
  obtain rfl : b1 = true := e1
  obtain ⟨G2, hG2⟩ : ∃ G2, gScroll G1 (-1) 0 0 0 = G2 := ⟨_, rfl⟩
  dsimp only at e2 e3 e4 e5 e6
  rw [hG2] at e2 e3 e4 e5 e6
  obtain ⟨G3, hG3⟩ : ∃ G3, gFit G2 1 2 = G3 := ⟨_, rfl⟩
  rw [hG3] at e3 e4 e5 e6
  obtain ⟨l3, hl3⟩ : ∃ l3, gLn G3 0 = l3 := ⟨_, rfl⟩
  rw [hl3] at e6
  have HG0 := Aside0.mk hG0
  have HG1 := Aside0.mk hp1
  have HG2 := Aside0.mk hG2
  have HG3 := Aside0.mk hG3
  have HL3 := Aside0.mk hl3
  have HA := Aside0.mk e2
  have HN := Aside0.mk (And.intro e3 e4)
  have HU := Aside0.mk (And.intro e5 e6)
  clear hG0 hp1 hG2 hG3 hl3 e2 e3 e4 e5 e6
  go_enter Try.func64, Try.ntmps64
  go_wp2_with (first | (go_at_call 76; go_must (refine (New_any 2 3 kc_size w).mono ?_); rintro e w1 ⟨g, rfl, hF⟩; rw [HG0.out] at hF; have Q1 := Aside0.mk (QO.fresh hF (fun _ => False)); clear hF) | (go_at_call 14; go_must (refine (cell_Of.calls 97 0 0 0 _ _ _ _ _ _ _ _ w1 kc_of).mono ?_); rintro e w2 ⟨rfl, hb⟩; have Q2 := Aside0.mk (Q1.out.below hb); clear hb) | ((with_reducible refine gate_dst (N := 3) rfl ?_); go_must (refine box_event ?hg (N := 3) ?hd (cs := #[.int .i32 0, .int .i32 0, .int .i32 0, .int .u8 0, .int .u8 0, .int .u8 0, .int .u8 0]) (t := 26) ?hr ?_); go_must ((case hd => rfl); (case hg => rfl); (case hr => first | (go_simp; done) | (go_simp; rfl))); intro g3 hg_ w3 hx_ hb_; go_must (have Q3 := Aside0.mk (QO.box (o := cellB zC) Q2.out hx_ hg_ hb_)); clear hg_ hx_ hb_) | ((with_reducible refine gate_store (t := 26) (p := 3) rfl ?_); go_must (refine step_whole (.tmp 3) (.tmp 23) rfl rfl rfl rfl rfl (Q3.out.bx (g3, cellB zC) (by simp)).1 rfl (by kernel_rfl) (by simp [Value.oneCell']; done) ?_); intro w4 hx_ hg_; go_must (have Q4 := Aside0.mk (QO.store (l1 := []) (l2 := []) (o' := cellB kC) Q3.out hx_ hg_)); clear hx_ hg_; obtain ⟨c0, c1, c2, c3, c4, c5, c6⟩ := ccells (Q4.out.bx (g3, cellB kC) (by simp)).1) | (go_at_call 70; go_must (refine (Put_any Q4.out.gr 0 0 ⟨by omega, by omega⟩ kC w32_kC).mono ?_); rintro e w5 ⟨rfl, hd⟩; rw [HG1.out] at hd ⊢; obtain ⟨O5, -, q5⟩ := Q4.out.did hd; have Q5 := Aside0.mk q5; clear hd q5 c0 c1 c2 c3 c4 c5 c6) | (go_at_call 61; go_must (refine (Scroll_any Q5.out.gr (-1) 0 0 0 ⟨by omega, by omega⟩ kc_pen).mono ?_); rintro e w6 ⟨rfl, hd⟩; rw [HG2.out] at hd; obtain ⟨O6, -, q6⟩ := Q5.out.did hd; have Q6 := Aside0.mk q6; clear hd q6) | (go_at_call 62; go_must (refine (At_any Q6.out.gr 1 0).mono ?_); rintro e w7 ⟨rfl, hb⟩; rw [HA.out]; have Q7 := Aside0.mk (Q6.out.below hb); clear hb) | ((with_reducible refine gate_dst (N := 6) rfl ?_); go_must (refine box_event ?hg (N := 6) ?hd (cs := #[.int .i32 0, .int .i32 0, .int .i32 0, .int .u8 0, .int .u8 0, .int .u8 0, .int .u8 0]) (t := 26) ?hr ?_); go_must ((case hd => rfl); (case hg => rfl); (case hr => first | (go_simp; done) | (go_simp; rfl))); intro g6 hg_ w8 hx_ hb_; go_must (have Q8 := Aside0.mk (QO.box (o := cellB zC) Q7.out hx_ hg_ hb_)); clear hg_ hx_ hb_) | ((with_reducible refine gate_store (t := 26) (p := 6) rfl ?_); go_must (refine step_whole (.tmp 6) (.tmp 34) rfl rfl rfl rfl rfl (Q8.out.bx (g6, cellB zC) (by simp)).1 rfl (by kernel_rfl) (by simp [Value.oneCell']; done) ?_); intro w9 hx_ hg_; go_must (have Q9 := Aside0.mk (QO.store (l1 := []) (l2 := [(g3, cellB kC)]) (o' := cellB kC) Q8.out hx_ hg_)); clear hx_ hg_) | (go_at_call 63; go_must (refine (Fit_any Q9.out.gr 1 2 kc_fsize).mono ?_); rintro e w10 ⟨f, rfl, hF⟩; rw [HG3.out] at hF; have Q10 := Aside0.mk (Q9.out.below hF.2); have HF := Aside0.mk hF; clear hF; obtain ⟨c0, c1, c2, c3, c4, c5, c6⟩ := ccells (Q10.out.bx (g3, cellB kC) (by simp)).1; obtain ⟨d0, d1, d2, d3, d4, d5, d6⟩ := ccells (Q10.out.bx (g6, cellB kC) (by simp)).1) | (go_at_call 65; go_must (refine (Rows_any HF.out.1).mono ?_); rintro e w11 ⟨rfl, rfl⟩; rw [HN.out.1]) | (go_at_call 66; go_must (refine (Cols_any HF.out.1).mono ?_); rintro e w12 ⟨rfl, rfl⟩; rw [HN.out.2]) | (go_at_call 69; go_must (refine (Line_any HF.out.1 0).mono ?_); rintro e w13 ⟨v, rfl, hR, hb⟩; rw [if_pos HU.out.1, HL3.out] at hR; obtain ⟨A, cc, rfl, hc, -⟩ := Kd.R_reads hR; have HV := Aside0.mk (And.intro (Kd.F_now (Kd.R_F hR)) hc); have Q13 := Aside0.mk (Q10.out.below hb); clear hR hb hc) | (go_at_call 55; go_must (refine (line_Used.calls 10 A cc l3 0 _ HV.out.1 HV.out.2 HU.out.2).mono ?_); rintro e w14 ⟨rfl, hb⟩; have Q14 := Aside0.mk (Q13.out.below hb); clear hb))
  all_goals go_ret
  all_goals exact ⟨rfl, Q14.out.wr.toBelow (Nat.le_refl _) (fun k hk => hk.elim)⟩
end Go.Proofs.Ytblcmcdifgclcaa.Grd
