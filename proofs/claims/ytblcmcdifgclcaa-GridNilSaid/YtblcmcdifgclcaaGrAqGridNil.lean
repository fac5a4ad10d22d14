/- GridNil: what its proof leads to. No condition. -/
import Derived.Test.YtblcmcdifgclcaaGrWqGridNil
namespace Go.Proofs.Ytblcmcdifgclcaa.Grd
open Go.RowKit Go.Proofs.Ytblcmcdifgclcaa Go.Proofs.Ytblcmcdifgclcaa.PGridSame Go.Proofs.YtblcmcdifgclcaaW.PrintWords Go.Proofs.YtblcmcdifgclcaaW.PrintLast Go.Proofs.YtblcmcdifgclcaaW.PrintMore
set_option linter.unusedVariables false
set_option linter.unusedSimpArgs false
set_option maxRecDepth 100000
set_option maxHeartbeats 4000000
section
variable {O : Nat → Prop} {W : World} {g : Nat} {G : GV}
theorem GS.cells (h : GS O W g G) : ∃ b cap, W.cell? ⟨g, 0, none⟩ = some (.int .i64 G.row) ∧ W.cell? ⟨g, 1, none⟩ = some (.int .i64 G.col) ∧ W.cell? ⟨g, 2, none⟩ = some (.slice (some ⟨b, 0, none⟩) G.L.length cap) ∧ W.cell? ⟨g, 3, none⟩ = some (.int .i64 G.cols) ∧ G.L.length ≤ cap ∧ O b ∧ b ≠ g := by
  obtain ⟨b, cap, hb, hn, hc, hx, -⟩ := h.open_
  exact ⟨b, cap, (blk_cell hx 0).trans rfl, (blk_cell hx 1).trans rfl, (blk_cell hx 2).trans rfl, (blk_cell hx 3).trans rfl, hc, hb, hn⟩
theorem has_any (h : GS O W g G) (r : Int) : Calls Try.prog 106 #[.pointer (some ⟨g, 0, none⟩), .int .i64 r] W fun e w' => e = .returned (.bool (gHas G r)) ∧ w' = W := by
  obtain ⟨b, cap, -, -, h2, -⟩ := h.cells
  clear h
  unfold gHas
  by_cases h0 : 0 ≤ r
  · have h0' : decide (0 ≤ r) = true := decide_eq_true h0
    go_enter Try.func106, Try.ntmps106
    go_wp2
    all_goals go_ret
    all_goals exact ⟨by (try rw [h0']); rfl, rfl⟩
  · have h0' : decide (0 ≤ r) = false := decide_eq_false h0
    go_enter Try.func106, Try.ntmps106
    go_wp2
    all_goals go_ret
    all_goals exact ⟨by (try rw [h0']); rfl, rfl⟩
theorem Rows_any (h : GS O W g G) : Calls Try.prog 65 #[.pointer (some ⟨g, 0, none⟩)] W fun e w' => e = .returned (.int .i64 G.L.length) ∧ w' = W := by
  obtain ⟨b, cap, -, -, h2, -⟩ := h.cells
  clear h
  go_enter Try.func65, Try.ntmps65
  go_wp2
  all_goals go_ret
  all_goals exact ⟨rfl, rfl⟩
theorem Cols_any (h : GS O W g G) : Calls Try.prog 66 #[.pointer (some ⟨g, 0, none⟩)] W fun e w' => e = .returned (.int .i64 G.cols) ∧ w' = W := by
  obtain ⟨b, cap, -, -, -, h3, -⟩ := h.cells
  clear h
  go_enter Try.func66, Try.ntmps66
  go_wp2
  all_goals go_ret
  all_goals exact ⟨rfl, rfl⟩
/-- A row that is there. -/
theorem has_row {r : Int} (hr : gHas G r = true) : ∃ n : Nat, r = (n : Int) ∧ n < G.L.length ∧ G.L[n]? = some (gLn G r) := by
  simp only [gHas, Bool.and_eq_true, decide_eq_true_eq] at hr
  refine ⟨r.toNat, by omega, by omega, ?_⟩
  unfold gLn
  rw [List.getD_eq_getElem?_getD, List.getElem?_eq_getElem (by omega), Option.getD_some]
theorem Line_any (h : GS O W g G) (r : Int) : Calls Try.prog 69 #[.pointer (some ⟨g, 0, none⟩), .int .i64 r] W fun e w' => ∃ v, e = .returned v ∧ Kd.R kCl tCl w' W.heap.size (fun _ => True) v (if gHas G r = true then gLn G r else []) ∧ Below W.heap.size W w' := by
  obtain ⟨b, cap, -, -, hcap, hx, -, hrow⟩ := h.open_
  have h2 := (blk_cell hx 2).trans rfl
  have HS := Aside0.mk h
  by_cases hr : gHas G r = true
  · obtain ⟨n, rfl, hn, hg⟩ := has_row hr
    obtain ⟨A, c, hcl, -, hc, hF⟩ := hrow n _ hg
    have hlen := h.ok.len _ (gLn_mem hr)
    have HC := Aside0.mk (And.intro (Kd.F_now hF) (And.intro hc (show (gLn G (n : Int)).length < 8796093022208 by have := h.ok.c2; omega)))
    rw [if_pos hr]
    obtain ⟨l, hl⟩ : ∃ l, gLn G (n : Int) = l := ⟨_, rfl⟩
    rw [hl] at hcl HC ⊢
    have HR := Aside0.mk hr
    clear h hx hrow hr hg hc hF hlen hl
    go_enter Try.func69, Try.ntmps69
    go_wp2_with (first | (go_at_call 106; refine (has_any HS.out (n : Int)).mono ?_; rintro e w1 ⟨rfl, rfl⟩; rw [HR.out]) | (go_at_call 95; refine (cell_Cell_95.calls A c l l _ HC.out.1 HC.out.2.1 (by unfold cell_Cell_95.f; rw [if_pos HC.out.2.2])).mono ?_; rintro e w2 ⟨v, rfl, hR, hb⟩; have H2 := Aside0.mk (And.intro hR hb); clear hR hb))
    all_goals go_ret
    all_goals exact ⟨_, rfl, H2.out.1, H2.out.2⟩
  · rw [if_neg hr]
    have HR := Aside0.mk (Bool.eq_false_iff.2 hr)
    clear h hx hrow hr
    go_enter Try.func69, Try.ntmps69
    go_wp2_with (first | (go_at_call 106; refine (has_any HS.out r).mono ?_; rintro e w1 ⟨rfl, rfl⟩; rw [HR.out]))
    all_goals go_ret
    all_goals exact ⟨_, rfl, Kd.R_nil _ _ _ _ _, Below.refl _ _⟩
end
end Go.Proofs.Ytblcmcdifgclcaa.Grd
