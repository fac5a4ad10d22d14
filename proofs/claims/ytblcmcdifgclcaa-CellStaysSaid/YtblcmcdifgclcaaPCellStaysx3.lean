/- What the law CellStays reaches: each function with its contract. -/
import Derived.Test.YtblcmcdifgclcaaPCellStaysx0
import Derived.Test.YtblcmcdifgclcaaPCellStaysx2
namespace Go.Proofs.Ytblcmcdifgclcaa.PCellStays
open Go.RowKit Go.Proofs.YtblcmcdifgclcaaW.PrintWords Go.Proofs.YtblcmcdifgclcaaW.PrintLast Go.Proofs.YtblcmcdifgclcaaW.PrintMore
attribute [local go_sem] max2_int min2_int max_two min_two max_three min_three max_four min_four   -- for this text's walks alone
set_option linter.unusedVariables false
set_option linter.unusedSimpArgs false

/-! ### width_Clusters: function 34 -/
def width_Clusters.l0 : Nat → List (List Int) → Bool → List Int → Int → Int → Option ((List (List Int)))
  | 0, _, _, _, _, _ => none
  | k + 1, x3, x4, x9, x10, x11 => if x11 < x10 then (if 0 ≤ x11 then (if x11 < (x9.length : Int) then ((width_Of.f (rd x9 x11)).bind fun t165 => (if t165 < 0 then (width_Clusters.l0 k x3 false x9 x10 (wrap64 (x11 + 1))) else (if t165 > 0 then (if x3.length < 5864062014805 then (width_Clusters.l0 k (x3 ++ [(([rd x9 x11] : List Int))]) true x9 x10 (wrap64 (x11 + 1))) else (none)) else (if x4 = true then (if 0 ≤ (wrap64 ((x3.length : Int) - 1)) then (if (wrap64 ((x3.length : Int) - 1)) < (x3.length : Int) then (if (rd_L2 x3 (wrap64 ((x3.length : Int) - 1))).length < 35184372088832 then (width_Clusters.l0 k (x3.set ((wrap64 ((x3.length : Int) - 1)) : Int).toNat ((rd_L2 x3 (wrap64 ((x3.length : Int) - 1))) ++ [rd x9 x11])) x4 x9 x10 (wrap64 (x11 + 1))) else (none)) else (none)) else (none)) else (width_Clusters.l0 k x3 x4 x9 x10 (wrap64 (x11 + 1))))))) else (none)) else (none)) else (some x3)
def width_Clusters.f (k : Nat) (l0 : List Int) : Option ((List (List Int))) := width_Clusters.l0 k ([] : List (List Int)) false l0 (l0.length : Int) 0
theorem width_Clusters.mono_l : ∀ k, (∀ y0 y1 y2 y3 y4, LeO (width_Clusters.l0 k y0 y1 y2 y3 y4) (width_Clusters.l0 (k + 1) y0 y1 y2 y3 y4))
  | 0 => fun _ _ _ _ _ r h => by simp [width_Clusters.l0] at h
  | k + 1 => by
    have ih0 := width_Clusters.mono_l k
    · intro y0 y1 y2 y3 y4
      unfold width_Clusters.l0
      repeat' first
      | (with_reducible exact ih0 _ _ _ _ _)
      | (with_reducible exact LeO.refl _)
      | (with_reducible exact LeO.none _)
      | (with_reducible refine LeO.ite ?_ ?_)
      | (with_reducible refine LeO.bind ?_ (fun _ => ?_))
      | exact ih0 _ _ _ _ _
      | exact LeO.none _
      | refine LeO.ite ?_ ?_
      | refine LeO.bind ?_ (fun _ => ?_)
theorem width_Clusters.mono : ∀ a0 k, LeO (width_Clusters.f k a0) (width_Clusters.f (k + 1) a0) := by
  intro a0 k
  have ih0 := width_Clusters.mono_l k
  unfold width_Clusters.f
  repeat' first
      | (with_reducible exact ih0 _ _ _ _ _)
      | (with_reducible exact LeO.refl _)
      | (with_reducible exact LeO.none _)
      | (with_reducible refine LeO.ite ?_ ?_)
      | (with_reducible refine LeO.bind ?_ (fun _ => ?_))
      | exact ih0 _ _ _ _ _
      | exact LeO.none _
      | refine LeO.ite ?_ ?_
      | refine LeO.bind ?_ (fun _ => ?_)
set_option maxHeartbeats 8000000 in
set_option maxRecDepth 100000 in
theorem width_Clusters.calls (k : Nat) (A0 : Option Addr) (c0 : Nat) (l0 : List Int) (r : List (List Int)) (w : World) (hr0 : Kd.C (Kd.int .i32) w A0 l0.length l0) (hc0 : l0.length ≤ c0) (h : width_Clusters.f k l0 = some r) :
    Calls Try.prog 34 #[.slice A0 l0.length c0] w fun e w' => ∃ v0_ : Value, e = .returned (v0_) ∧ Kd.S (Kd.slice 21 (Kd.int .i32)) 50 w' w.heap.size (fun _ => True) v0_ r ∧ Below w.heap.size w w' := by
  have HR0 := Aside0.mk hr0
  have HC0 := Aside0.mk hc0
  clear hr0 hc0
  have HB := Aside0.mk (Below.refl w.heap.size w)
  have H : (width_Clusters.l0 k ([] : List (List Int)) false l0 (l0.length : Int) 0) = some r := h
  clear h
  have H' := Aside0.mk H
  clear H
  go_enter Try.func34, Try.ntmps34
  go_wp2
  refine wp_scope_same (by intro _ _ _ h; exact h) ?_
  go_wp2
  refine wp_label ?_
  go_wp2
  go_loopg [3, 4, 11] k (fun kq v3 v4 v11 w' => ∃ (x3_1 : List (List Int)) (x4_1 : Bool) (x11_1 : Int), v4 = .bool x4_1 ∧ v11 = .int .i64 x11_1 ∧ Aside0 (width_Clusters.l0 kq x3_1 x4_1 l0 (l0.length : Int) x11_1 = some r) ∧ Aside0 (kq ≤ k) ∧ Aside0 (Kd.S (Kd.slice 21 (Kd.int .i32)) 50 w' w.heap.size (fun _ => True) v3 x3_1) ∧ Aside0 (Below w.heap.size w w'))
  case atStart => exact ⟨(([] : List (List Int))), (false), (0), (by first | rfl | (simp; done) | (simp [*]; done)), (by first | rfl | (simp; done) | (simp [*]; done)), H', ⟨Nat.le_refl _⟩, ⟨by first | exact Kd.S_nil _ _ _ _ _ | exact Kd.N_nil _ _ _ _ _ | exact Kd.V_nil _ _ _ _ _ | exact Kd.Q_nil _ _ _ _ _ | exact Kd.R_nil _ _ _ _ _⟩, ⟨by repeat (first | (with_reducible first | exact HB.out | apply below_alloc | apply pw_below_drewN | apply below_drew1) | exact HB.out)⟩⟩
  case round =>
    clear H'
    obtain ⟨x3_1, x4_1, x11_1, rfl, rfl, HA, HK1, HO_3, HB⟩ := hrel
    cases gk with
    | zero => exact absurd HA.out (by simp [width_Clusters.l0])
    | succ k1 =>
      have H := HA.out
      clear HA
      simp only [width_Clusters.l0] at H
      by_cases c2 : x11_1 < (l0.length : Int)
      · rw [if_pos c2] at H
        have c2b0 : decide (x11_1 < (l0.length : Int)) = true := decide_eq_true c2
        clear c2
        by_cases c3 : 0 ≤ x11_1
        · rw [if_pos c3] at H
          have c3b0 : decide (0 ≤ x11_1) = true := decide_eq_true c3
          clear c3
          by_cases c4 : x11_1 < (l0.length : Int)
          · rw [if_pos c4] at H
            have c4b0 : decide (x11_1 < (l0.length : Int)) = true := decide_eq_true c4
            clear c4
            replace H := Option.bind_eq_some_iff.mp H
            obtain ⟨t165, A50, H⟩ := H
            replace H : (if t165 < 0 then (width_Clusters.l0 k1 x3_1 false l0 (l0.length : Int) (wrap64 (x11_1 + 1))) else (if t165 > 0 then (if x3_1.length < 5864062014805 then (width_Clusters.l0 k1 (x3_1 ++ [(([rd l0 x11_1] : List Int))]) true l0 (l0.length : Int) (wrap64 (x11_1 + 1))) else (none)) else (if x4_1 = true then (if 0 ≤ (wrap64 ((x3_1.length : Int) - 1)) then (if (wrap64 ((x3_1.length : Int) - 1)) < (x3_1.length : Int) then (if (rd_L2 x3_1 (wrap64 ((x3_1.length : Int) - 1))).length < 35184372088832 then (width_Clusters.l0 k1 (x3_1.set ((wrap64 ((x3_1.length : Int) - 1)) : Int).toNat ((rd_L2 x3_1 (wrap64 ((x3_1.length : Int) - 1))) ++ [rd l0 x11_1])) x4_1 l0 (l0.length : Int) (wrap64 (x11_1 + 1))) else (none)) else (none)) else (none)) else (width_Clusters.l0 k1 x3_1 x4_1 l0 (l0.length : Int) (wrap64 (x11_1 + 1)))))) = some r := H
            have A5 := Aside0.mk A50
            clear A50
            by_cases c6 : t165 < 0
            · rw [if_pos c6] at H
              have c6b0 : decide (t165 < 0) = true := decide_eq_true c6
              clear c6
              have H' := Aside0.mk H
              clear H
              have p164 : 0 ≤ (x11_1 : Int) := of_decide_eq_true (by first | (with_reducible assumption) | assumption)
              have q164 : x11_1 < (l0.length : Int) := of_decide_eq_true (by first | (with_reducible assumption) | assumption)
              obtain ⟨ad164, e164, hx164_0⟩ := Kd.at_int HR0.out x11_1 p164 q164
              cases e164
              replace hx164_0 := (HB.out.cell (World.block_lt_of_cell? w _ hx164_0)).trans hx164_0
              replace p164 := eq_true p164
              replace q164 := eq_true q164
              go_wp2_with (first | ((with_reducible refine gate_callee (f := 84) rfl ?_); refine goesL_ (some 16) rfl rfl Try.func84 (by kernel_rfl) rfl #[.int .i32 (rd l0 x11_1)] rfl (by (try simp only [List.map_toArray, List.map_cons, List.map_nil]); first | done | rfl | (simp only [List.length_drop, List.length_take]; rfl)) ?_; (with_reducible refine (width_Of.calls (rd l0 x11_1) t165 _ A5.out).mono ?_); rintro e w7 ⟨rfl, hb⟩; refine ⟨_, rfl, ?_⟩; have n0_ := Aside0.mk (Kd.S_below (by (with_reducible repeat (first | apply Kd.S_alloc | apply Kd.S_drewN | apply Kd.S_drew)); exact HO_3.out) hb); have n1_ := Aside0.mk (below_step (by repeat (first | (with_reducible first | exact HB.out | apply below_alloc | apply pw_below_drewN | apply below_drew1) | exact HB.out)) hb); clear HO_3; clear HB; have HO_3 := n0_; have HB := n1_; clear n0_ n1_; (try clear hb); (try clear hb2); (try clear hk); (try clear hi)))
              go_roundg k1
              case measure => have := HK1.out; omega
              case rel => exact ⟨(x3_1), (false), (wrap64 (x11_1 + 1)), (by first | rfl | (simp; done) | (simp [*]; done)), (by first | rfl | (simp; done) | (simp [*]; done)), H', ⟨by have := HK1.out; omega⟩, ⟨by (with_reducible repeat (first | apply Kd.S_alloc | apply Kd.S_drewN | apply Kd.S_drew)); exact HO_3.out⟩, ⟨by repeat (first | (with_reducible first | exact HB.out | apply below_alloc | apply pw_below_drewN | apply below_drew1) | exact HB.out)⟩⟩
            · rw [if_neg c6] at H
              have c6b0 : decide (t165 < 0) = false := decide_eq_false c6
              clear c6
              by_cases c8 : t165 > 0
              · rw [if_pos c8] at H
                have c8b0 : decide (0 < t165) = true := decide_eq_true c8
                clear c8
                obtain ⟨y166, hy166⟩ : ∃ y_ : List Int, y_ = (([rd l0 x11_1] : List Int)) := ⟨_, rfl⟩
                replace H : (if x3_1.length < 5864062014805 then (width_Clusters.l0 k1 (x3_1 ++ [y166]) true l0 (l0.length : Int) (wrap64 (x11_1 + 1))) else (none)) = some r := by first | (rw [hy166]; with_reducible exact H) | (have H2_ := (Option.bind_some _ _).symm.trans H; rw [hy166]; with_reducible exact H2_) | (have H2_ := (Option.bind_some _ _).symm.trans H; with_reducible exact H2_) | with_reducible exact H | (rw [hy166]; exact H) | exact H
                have Ny166 := Aside0.mk hy166
                clear hy166
                by_cases c9 : x3_1.length < 5864062014805
                · rw [if_pos c9] at H
                  have LMc9 := Aside0.mk c9
                  clear c9
                  obtain ⟨y169, hy169⟩ : ∃ y_ : List (List Int), y_ = (x3_1 ++ [y166]) := ⟨_, rfl⟩
                  replace H : (width_Clusters.l0 k1 y169 true l0 (l0.length : Int) (wrap64 (x11_1 + 1))) = some r := by first | (rw [hy169]; with_reducible exact H) | (have H2_ := (Option.bind_some _ _).symm.trans H; rw [hy169]; with_reducible exact H2_) | (have H2_ := (Option.bind_some _ _).symm.trans H; with_reducible exact H2_) | with_reducible exact H | (rw [hy169]; exact H) | exact H
                  have Ny169 := Aside0.mk hy169
                  clear hy169
                  have H' := Aside0.mk H
                  clear H
                  have p164 : 0 ≤ (x11_1 : Int) := of_decide_eq_true (by first | (with_reducible assumption) | assumption)
                  have q164 : x11_1 < (l0.length : Int) := of_decide_eq_true (by first | (with_reducible assumption) | assumption)
                  obtain ⟨ad164, e164, hx164_0⟩ := Kd.at_int HR0.out x11_1 p164 q164
                  cases e164
                  replace hx164_0 := (HB.out.cell (World.block_lt_of_cell? w _ hx164_0)).trans hx164_0
                  replace p164 := eq_true p164
                  replace q164 := eq_true q164
                  go_wp2_with (first | ((with_reducible refine gate_callee (f := 84) rfl ?_); refine goesL_ (some 16) rfl rfl Try.func84 (by kernel_rfl) rfl #[.int .i32 (rd l0 x11_1)] rfl (by (try simp only [List.map_toArray, List.map_cons, List.map_nil]); first | done | rfl | (simp only [List.length_drop, List.length_take]; rfl)) ?_; (with_reducible refine (width_Of.calls (rd l0 x11_1) t165 _ A5.out).mono ?_); rintro e w10 ⟨rfl, hb⟩; refine ⟨_, rfl, ?_⟩; have n0_ := Aside0.mk (Kd.S_below (by (with_reducible repeat (first | apply Kd.S_alloc | apply Kd.S_drewN | apply Kd.S_drew)); exact HO_3.out) hb); have n1_ := Aside0.mk (below_step (by repeat (first | (with_reducible first | exact HB.out | apply below_alloc | apply pw_below_drewN | apply below_drew1) | exact HB.out)) hb); clear HO_3; clear HB; have HO_3 := n0_; have HB := n1_; clear n0_ n1_; (try clear hb); (try clear hb2); (try clear hk); (try clear hi)) | ((with_reducible refine gate_dst (N := 25) rfl ?_); refine Kd.R_lit (Kd.int .i32) _ 21 ?hg (N := 25) ?hd (xs := ([rd l0 x11_1] : List Int)) (inner := [.int .i32 (rd l0 x11_1)]) (ok := fun _ => True) (okp := fun _ => True) ?hr ?hp (fun _ hk => hk) trivial (Below.refl _ _) (Nat.le_refl _) (by simp) ?_; (case hd => rfl); (case hg => rfl); (case hr => first | (go_simp; done) | (go_simp; rfl)); (case hp => exact (Reps.one (show Kd.M (Kd.int .i32) _ _ _ (rd l0 x11_1) [.int .i32 (rd l0 x11_1)] from rfl) (Reps.none _ _))); intro v167 w11 ho12 hb hg_ hnew_; clear hg_ hnew_; (first | rw [← Ny166.out] at ho12 | (simp only [Int.reduceToNat] at ho12; rw [← Ny166.out] at ho12)); have n0_ := Aside0.mk (Kd.S_elder' (by (with_reducible repeat (first | apply Kd.S_alloc | apply Kd.S_drewN | apply Kd.S_drew)); exact HO_3.out) (Kd.R_base ho12) hb); have n1_ := Aside0.mk (Kd.R_lower ho12 (below_size (by repeat (first | (with_reducible first | exact HB.out | apply below_alloc | apply pw_below_drewN | apply below_drew1) | exact HB.out)))); have n2_ := Aside0.mk (below_step (by repeat (first | (with_reducible first | exact HB.out | apply below_alloc | apply pw_below_drewN | apply below_drew1) | exact HB.out)) hb); clear HO_3; clear HB; have HO_3 := n0_; have HO168 := n1_; have HB := n2_; clear n0_ n1_ n2_; clear hb ho12; obtain ⟨Ao14, co14, eo14⟩ := Kd.R_slice HO168.out; subst eo14) | ((with_reducible refine gate_builtin (b := .append) (xs := #[.tmp 23, .tmp 26]) rfl ?_); at_builtin; refine Kd.S_append (Kd.slice 21 (Kd.int .i32)) (w0 := w) w.heap.size rfl (.tmp 23) (.tmp 26) 56 50 (.slice none 0 0) 24 rfl Try.underlying56 info50 rfl (by decide) (by omega) u3 x3_1 y166 [.slice Ao14 y166.length co14] (fun _ => True) (fun k_ => some k_ = (.slice Ao14 y166.length co14 : Value).ownBlock) rfl rfl ?aP (fun k_ hk_ => ((Kd.R_mono (ok' := fun k_ => ((fun _ => True)) k_ ∧ some k_ ≠ (u3 : Value).ownBlock) (Kd.R_apart' (HO168.out) (Kd.S_typed HO_3.out) (by decide)) (fun k_ hk => ⟨trivial, hk.2⟩))).1 k_ hk_.symm) ?aF ?aO ?aB ?aS ?aL ?_; (case aP => exact Kd.M_row (Kd.R_mono (Kd.R_tight rfl (Kd.R_mono (ok' := fun k_ => ((fun _ => True)) k_ ∧ some k_ ≠ (u3 : Value).ownBlock) (Kd.R_apart' (HO168.out) (Kd.S_typed HO_3.out) (by decide)) (fun k_ hk => ⟨trivial, hk.2⟩))) (fun _ h_ => h_))); (case aB => exact (by repeat (first | (with_reducible first | exact HB.out | apply below_alloc | apply pw_below_drewN | apply below_drew1) | exact HB.out))); (case aF => exact (fun _ _ => trivial)); (case aO => exact (by (with_reducible repeat (first | apply Kd.S_alloc | apply Kd.S_drewN | apply Kd.S_drew)); exact Kd.S_mono HO_3.out (fun k_ hk => ⟨trivial, fun e_ => hk.2 e_⟩))); (case aS => exact (below_size (by repeat (first | (with_reducible first | exact HB.out | apply below_alloc | apply pw_below_drewN | apply below_drew1) | exact HB.out)))); (case aL => have := LMc9.out; omega); intro v170 w13 ho hb hg hat; rw [← Ny169.out] at ho; have n0_ := Aside0.mk (hb); have n1_ := Aside0.mk (ho); clear HB; clear HO_3; clear HO168; have HB := n0_; have HO171 := n1_; clear n0_ n1_; clear ho hb hg hat))
                  go_roundg k1
                  case measure => have := HK1.out; omega
                  case rel => exact ⟨(y169), (true), (wrap64 (x11_1 + 1)), (by first | rfl | (simp; done) | (simp [*]; done)), (by first | rfl | (simp; done) | (simp [*]; done)), H', ⟨by have := HK1.out; omega⟩, ⟨by (with_reducible repeat (first | apply Kd.S_alloc | apply Kd.S_drewN | apply Kd.S_drew)); exact HO171.out⟩, ⟨by repeat (first | (with_reducible first | exact HB.out | apply below_alloc | apply pw_below_drewN | apply below_drew1) | exact HB.out)⟩⟩
                · rw [if_neg c9] at H
                  exact absurd H (by simp)
              · rw [if_neg c8] at H
                have c8b0 : decide (0 < t165) = false := decide_eq_false c8
                clear c8
                by_cases c15 : x4_1 = true
                · subst c15
                  have H1 : (if 0 ≤ (wrap64 ((x3_1.length : Int) - 1)) then (if (wrap64 ((x3_1.length : Int) - 1)) < (x3_1.length : Int) then (if (rd_L2 x3_1 (wrap64 ((x3_1.length : Int) - 1))).length < 35184372088832 then (width_Clusters.l0 k1 (x3_1.set ((wrap64 ((x3_1.length : Int) - 1)) : Int).toNat ((rd_L2 x3_1 (wrap64 ((x3_1.length : Int) - 1))) ++ [rd l0 x11_1])) true l0 (l0.length : Int) (wrap64 (x11_1 + 1))) else (none)) else (none)) else (none)) = some r := by rw [if_pos rfl] at H; exact H
                  clear H
                  have H := H1
                  clear H1
                  obtain ⟨ji16, hji16⟩ : ∃ j_ : Int, (wrap64 ((x3_1.length : Int) - 1)) = j_ := ⟨_, rfl⟩
                  replace H : (if 0 ≤ (ji16) then (if (ji16) < (x3_1.length : Int) then (if (rd_L2 x3_1 (ji16)).length < 35184372088832 then (width_Clusters.l0 k1 (x3_1.set ((ji16) : Int).toNat ((rd_L2 x3_1 (ji16)) ++ [rd l0 x11_1])) true l0 (l0.length : Int) (wrap64 (x11_1 + 1))) else (none)) else (none)) else (none)) = some r := by first | (rw [hji16] at H; exact H) | (simp only [hji16] at H ⊢; exact H)
                  (try rw [hji16] at A5)
                  have hji16w : (IntKind.i64.wrap ((x3_1.length : Int) - 1)) = ji16 := (i64_w _).trans hji16
                  by_cases c17 : 0 ≤ (ji16)
                  · rw [if_pos c17] at H
                    have c17b0 : decide (0 ≤ (ji16)) = true := decide_eq_true c17
                    clear c17
                    by_cases c18 : (ji16) < (x3_1.length : Int)
                    · rw [if_pos c18] at H
                      have c18b0 : decide ((ji16) < (x3_1.length : Int)) = true := decide_eq_true c18
                      clear c18
                      by_cases c19 : (rd_L2 x3_1 (ji16)).length < 35184372088832
                      · rw [if_pos c19] at H
                        have LMc19 := Aside0.mk c19
                        clear c19
                        obtain ⟨y173, hy173⟩ : ∃ y_ : List Int, y_ = ((rd_L2 x3_1 (ji16)) ++ [rd l0 x11_1]) := ⟨_, rfl⟩
                        replace H : (width_Clusters.l0 k1 (x3_1.set ((ji16) : Int).toNat y173) true l0 (l0.length : Int) (wrap64 (x11_1 + 1))) = some r := by first | (rw [hy173]; with_reducible exact H) | (have H2_ := (Option.bind_some _ _).symm.trans H; rw [hy173]; with_reducible exact H2_) | (have H2_ := (Option.bind_some _ _).symm.trans H; with_reducible exact H2_) | with_reducible exact H | (rw [hy173]; exact H) | exact H
                        have Ny173 := Aside0.mk hy173
                        clear hy173
                        obtain ⟨y176, hy176⟩ : ∃ y_ : List (List Int), y_ = (x3_1.set ((ji16) : Int).toNat y173) := ⟨_, rfl⟩
                        replace H : (width_Clusters.l0 k1 y176 true l0 (l0.length : Int) (wrap64 (x11_1 + 1))) = some r := by first | (rw [hy176]; with_reducible exact H) | (have H2_ := (Option.bind_some _ _).symm.trans H; rw [hy176]; with_reducible exact H2_) | (have H2_ := (Option.bind_some _ _).symm.trans H; with_reducible exact H2_) | with_reducible exact H | (rw [hy176]; exact H) | exact H
                        have Ny176 := Aside0.mk hy176
                        clear hy176
                        have H' := Aside0.mk H
                        clear H
                        have p164 : 0 ≤ (x11_1 : Int) := of_decide_eq_true (by first | (with_reducible assumption) | assumption)
                        have q164 : x11_1 < (l0.length : Int) := of_decide_eq_true (by first | (with_reducible assumption) | assumption)
                        obtain ⟨ad164, e164, hx164_0⟩ := Kd.at_int HR0.out x11_1 p164 q164
                        cases e164
                        replace hx164_0 := (HB.out.cell (World.block_lt_of_cell? w _ hx164_0)).trans hx164_0
                        replace p164 := eq_true p164
                        replace q164 := eq_true q164
                        go_wp2_with (first | ((with_reducible refine gate_callee (f := 84) rfl ?_); refine goesL_ (some 16) rfl rfl Try.func84 (by kernel_rfl) rfl #[.int .i32 (rd l0 x11_1)] rfl (by (try simp only [List.map_toArray, List.map_cons, List.map_nil]); first | done | rfl | (simp only [List.length_drop, List.length_take]; rfl)) ?_; (with_reducible refine (width_Of.calls (rd l0 x11_1) t165 _ A5.out).mono ?_); rintro e w21 ⟨rfl, hb⟩; refine ⟨_, rfl, ?_⟩; have n0_ := Aside0.mk (Kd.S_below (by (with_reducible repeat (first | apply Kd.S_alloc | apply Kd.S_drewN | apply Kd.S_drew)); exact HO_3.out) hb); have n1_ := Aside0.mk (below_step (by repeat (first | (with_reducible first | exact HB.out | apply below_alloc | apply pw_below_drewN | apply below_drew1) | exact HB.out)) hb); clear HO_3; clear HB; have HO_3 := n0_; have HB := n1_; clear n0_ n1_; (try clear hb); (try clear hb2); (try clear hk); (try clear hi); obtain ⟨Ao22, co22, eo22⟩ := Kd.S_slice HO_3.out; subst eo22; have p172 : 0 ≤ ((ji16) : Int) := of_decide_eq_true (by first | (with_reducible assumption) | assumption); have q172 : (ji16) < (x3_1.length : Int) := of_decide_eq_true (by first | (with_reducible assumption) | assumption); obtain ⟨ad172, A172_0, c172_0, e172, hx172_0, hl172_0, hi172_0⟩ := at_L2 (Kd.S_reads' HO_3.out).2.2 (ji16) p172 q172; cases e172; obtain ⟨ce172, hce172, hMe172, hcc172⟩ := Kd.S_get HO_3.out [] (ji16) p172 (by first | exact q172 | exact of_decide_eq_true (by first | (with_reducible assumption) | assumption) | (have e_ := (Kd.S_reads' HO_3.out).1; omega)); obtain ⟨ve172_0, rfl, ge172_0⟩ := hMe172; have hv172_0 := hcc172 0 _ rfl; rw [Nat.add_zero, show ((Kd.slice 21 (Kd.int .i32))).sz = 1 from rfl, Nat.mul_one] at hv172_0; replace hv172_0 := Option.some.inj (hv172_0.symm.trans hx172_0); rw [hv172_0] at ge172_0; have HL172_0 := Aside0.mk (show Kd.R (Kd.int .i32) 21 _ _ _ _ (rd_L2 x3_1 (ji16)) from ge172_0); clear hv172_0 ge172_0; have HX172_0 := Aside0.mk hx172_0; clear hcc172 hce172; have HR172_0 := Aside0.mk hi172_0; have HC172_0 := Aside0.mk hl172_0; clear hi172_0 hl172_0; replace p172 := eq_true p172; replace q172 := eq_true q172; obtain ⟨go23, co23, eo23, gb23, gl23, cl23, HG23⟩ := Kd.S_form HO_3.out (by have h_ : ((ji16) : Int) < ((x3_1.length : Int) : Int) := of_decide_eq_true (by first | (with_reducible assumption) | assumption); have h2_ : 0 ≤ ((ji16) : Int) := (of_decide_eq_true (by first | (with_reducible assumption) | assumption)); omega); (first | cases eo23 | (injection eo23 with ea_ en_ ec_; (first | subst ea_ | (injection ea_ with ea_; subst ea_)); subst ec_; clear en_)); have GB23 := Aside0.mk gb23; have GG23 := Aside0.mk HG23; clear gb23 gl23 HG23; (first | simp only [add_plain] at hx172_0 | skip); obtain ⟨oki23, ce23, hcl23, hM23, hcc23, _, _, hH23⟩ := Kd.S_elem HO_3.out [] ((ji16) : Int) (of_decide_eq_true (by first | (with_reducible assumption) | assumption)) (by have h_ : ((ji16) : Int) < ((x3_1.length : Int) : Int) := of_decide_eq_true (by first | (with_reducible assumption) | assumption); first | exact h_ | (have e_ := (Kd.S_reads' HO_3.out).1; omega) | simpa using h_); obtain ⟨ve23_0, rfl, ge23_0⟩ := hM23; have hv23 := hcc23 0 _ rfl; have hX23 := HX172_0.out; (try simp only [add_plain] at hX23); (try simp only [Nat.add_zero] at hv23); (try rw [show ((Kd.slice 21 (Kd.int .i32))).sz = 1 from rfl, Nat.mul_one] at hv23); replace hv23 := Option.some.inj (hv23.symm.trans hX23); subst hv23; clear hX23 hcc23 hcl23; have UU23 := Aside0.mk (show Kd.R (Kd.int .i32) 21 _ w.heap.size oki23 (.slice A172_0 (rd_L2 x3_1 (ji16)).length c172_0) (rd_L2 x3_1 (ji16)) from ge23_0); have HH23 := Aside0.mk hH23; have HN23 := Aside0.mk (Kd.S_reads' HO_3.out).1; clear hH23 ge23_0) | ((with_reducible refine gate_builtin (b := .append) (xs := #[.tmp 38, .tmp 40]) rfl ?_); at_builtin; refine Kd.R_append (Kd.int .i32) (w0 := w) w.heap.size rfl (.tmp 38) (.tmp 40) 50 21 (.int .i32 0) 4 rfl Try.underlying50 info21 rfl (by decide) (by omega) (.slice A172_0 (rd_L2 x3_1 (ji16)).length c172_0) (rd_L2 x3_1 (ji16)) (rd l0 x11_1) [.int .i32 (rd l0 x11_1)] (fun k_ => oki23 k_ ∨ ((fun _ => True)) k_ ∧ w21.heap.size ≤ k_) (fun _ => False) rfl rfl ?aP (fun _ hk => hk.elim) ?aF ?aO ?aB ?aS ?aL ?_; (case aP => exact rfl); (case aB => exact (by repeat (first | (with_reducible first | exact HB.out | apply below_alloc | apply pw_below_drewN | apply below_drew1) | exact HB.out))); (case aF => exact (fun k_ hk => .inr ⟨trivial, hk⟩)); (case aO => exact (by (with_reducible repeat (first | apply Kd.R_alloc | apply Kd.R_drewN | apply Kd.R_drew)); exact Kd.R_mono UU23.out (fun _ hk => .inl hk))); (case aS => exact (below_size (by repeat (first | (with_reducible first | exact HB.out | apply below_alloc | apply pw_below_drewN | apply below_drew1) | exact HB.out)))); (case aL => have := LMc19.out; omega); intro v174 w24 ho hb hg hat; rw [← Ny173.out] at ho; have n0_ := Aside0.mk (hb); have n1_ := Aside0.mk (Kd.H_grown (Kd.H_widen (by repeat (first | exact HH23.out | refine Kd.H_alloc ?_ _ | refine Kd.H_drewN ?_ _ | refine Kd.H_drew ?_))) hg (fun k_ e_ => .inl (UU23.out.1 k_ e_))); have n2_ := Aside0.mk (ho); clear HB; clear HH23; clear HO_3; clear UU23; clear HL172_0; have HB := n0_; have HH23 := n1_; have HO175 := n2_; clear n0_ n1_ n2_; clear ho hb hg hat; have p20 : 0 ≤ ((ji16) : Int) := of_decide_eq_true (by first | (with_reducible assumption) | assumption); have q20 : ((ji16) : Int) < ((x3_1.length : Int) : Int) := of_decide_eq_true (by first | (with_reducible assumption) | assumption); replace p20 := eq_true p20; replace q20 := eq_true q20; obtain ⟨Ao27, co27, eo27⟩ := Kd.R_slice HO175.out; subst eo27; obtain ⟨_, _, hraw25, _, _, hcc25, _⟩ := Kd.H_raw HH23.out (of_decide_eq_true (by first | (with_reducible assumption) | assumption)) (by have h_ : ((ji16) : Int) < ((x3_1.length : Int) : Int) := of_decide_eq_true (by first | (with_reducible assumption) | assumption); first | exact h_ | (have e_ := (HN23.out); omega) | simpa using h_); obtain ⟨_, hfr25⟩ := Kd.H_at HH23.out (of_decide_eq_true (by first | (with_reducible assumption) | assumption)) (by have h_ : ((ji16) : Int) < ((x3_1.length : Int) : Int) := of_decide_eq_true (by first | (with_reducible assumption) | assumption); first | exact h_ | (have e_ := (HN23.out); omega) | simpa using h_); have hx25_0 := hcc25 0 _ rfl; have hf25_0 := hfr25 0; (try simp only [Nat.add_zero] at hx25_0 hf25_0); (try rw [show ((Kd.slice 21 (Kd.int .i32))).sz = 1 from rfl, Nat.mul_one] at hx25_0); (try rw [show ((Kd.slice 21 (Kd.int .i32))).sz = 1 from rfl, Nat.mul_one] at hf25_0); have HP25 := Kd.S_seg0 HH23.out (of_decide_eq_true (by first | (with_reducible assumption) | assumption)) (by have h_ : ((ji16) : Int) < ((x3_1.length : Int) : Int) := of_decide_eq_true (by first | (with_reducible assumption) | assumption); first | exact h_ | (have e_ := (HN23.out); omega) | simpa using h_) (seg := [.slice Ao27 y173.length co27]) (j := 0) (show 1 ≤ 1 from by decide) (x' := y173) (Kd.M_row HO175.out) (fun _ hk => hk); (try simp only [show ((Kd.slice 21 (Kd.int .i32))).sz = 1 from rfl, Nat.mul_one, Nat.add_zero] at HP25); clear hcc25 hfr25) | ((with_reducible refine gate_store (t := 50) (p := 42) rfl ?_); refine store_event (t := 50) (p := 42) (v := ?vo_w26) (w1 := (w24.setCell ⟨go23, ((ji16) : Int).toNat, none⟩ (.slice Ao27 y173.length co27))) ?hg ?ho ?hn ?hr ?_; (case ho => rfl); (case hg => rfl); (case hn => rfl); (case hr => first | (go_simp; done) | (go_simp; rfl)); intro w26 hw; have hg : w24.grownBy w26 (some go23) := (by rw [hw]; exact HP25.2); have hp_ : Kd.S (Kd.slice 21 (Kd.int .i32)) 50 w26 w.heap.size (fun _ => True) (.slice (some ⟨go23, 0, none⟩) x3_1.length co22) y176 := (by rw [hw, Ny176.out]; exact HP25.1); clear HP25; have n0_ := Aside0.mk ((by rw [hw]; exact below_set HB.out GB23.out : Below w.heap.size w w26)); have n1_ := Aside0.mk (hp_); clear HB; clear HO175; clear HH23; have HB := n0_; have HO_3 := n1_; clear n0_ n1_; clear hg hw hp_ hraw25))
                        go_roundg k1
                        case measure => have := HK1.out; omega
                        case rel => exact ⟨(y176), (true), (wrap64 (x11_1 + 1)), (by first | rfl | (simp; done) | (simp [*]; done)), (by first | rfl | (simp; done) | (simp [*]; done)), H', ⟨by have := HK1.out; omega⟩, ⟨by (with_reducible repeat (first | apply Kd.S_alloc | apply Kd.S_drewN | apply Kd.S_drew)); exact HO_3.out⟩, ⟨by repeat (first | (with_reducible first | exact HB.out | apply below_alloc | apply pw_below_drewN | apply below_drew1) | exact HB.out)⟩⟩
                      · rw [if_neg c19] at H
                        exact absurd H (by simp)
                    · rw [if_neg c18] at H
                      exact absurd H (by simp)
                  · rw [if_neg c17] at H
                    exact absurd H (by simp)
                · replace c15 := Bool.eq_false_iff.mpr c15
                  subst c15
                  have H1 : (width_Clusters.l0 k1 x3_1 false l0 (l0.length : Int) (wrap64 (x11_1 + 1))) = some r := by rw [if_neg (show ¬ (false = true) by decide)] at H; exact H
                  clear H
                  have H := H1
                  clear H1
                  have H' := Aside0.mk H
                  clear H
                  have p164 : 0 ≤ (x11_1 : Int) := of_decide_eq_true (by first | (with_reducible assumption) | assumption)
                  have q164 : x11_1 < (l0.length : Int) := of_decide_eq_true (by first | (with_reducible assumption) | assumption)
                  obtain ⟨ad164, e164, hx164_0⟩ := Kd.at_int HR0.out x11_1 p164 q164
                  cases e164
                  replace hx164_0 := (HB.out.cell (World.block_lt_of_cell? w _ hx164_0)).trans hx164_0
                  replace p164 := eq_true p164
                  replace q164 := eq_true q164
                  go_wp2_with (first | ((with_reducible refine gate_callee (f := 84) rfl ?_); refine goesL_ (some 16) rfl rfl Try.func84 (by kernel_rfl) rfl #[.int .i32 (rd l0 x11_1)] rfl (by (try simp only [List.map_toArray, List.map_cons, List.map_nil]); first | done | rfl | (simp only [List.length_drop, List.length_take]; rfl)) ?_; (with_reducible refine (width_Of.calls (rd l0 x11_1) t165 _ A5.out).mono ?_); rintro e w28 ⟨rfl, hb⟩; refine ⟨_, rfl, ?_⟩; have n0_ := Aside0.mk (Kd.S_below (by (with_reducible repeat (first | apply Kd.S_alloc | apply Kd.S_drewN | apply Kd.S_drew)); exact HO_3.out) hb); have n1_ := Aside0.mk (below_step (by repeat (first | (with_reducible first | exact HB.out | apply below_alloc | apply pw_below_drewN | apply below_drew1) | exact HB.out)) hb); clear HO_3; clear HB; have HO_3 := n0_; have HB := n1_; clear n0_ n1_; (try clear hb); (try clear hb2); (try clear hk); (try clear hi)))
                  go_roundg k1
                  case measure => have := HK1.out; omega
                  case rel => exact ⟨(x3_1), (false), (wrap64 (x11_1 + 1)), (by first | rfl | (simp; done) | (simp [*]; done)), (by first | rfl | (simp; done) | (simp [*]; done)), H', ⟨by have := HK1.out; omega⟩, ⟨by (with_reducible repeat (first | apply Kd.S_alloc | apply Kd.S_drewN | apply Kd.S_drew)); exact HO_3.out⟩, ⟨by repeat (first | (with_reducible first | exact HB.out | apply below_alloc | apply pw_below_drewN | apply below_drew1) | exact HB.out)⟩⟩
          · rw [if_neg c4] at H
            exact absurd H (by simp)
        · rw [if_neg c3] at H
          exact absurd H (by simp)
      · rw [if_neg c2] at H
        have c2b0 : decide (x11_1 < (l0.length : Int)) = false := decide_eq_false c2
        clear c2
        obtain rfl := Option.some.inj H
        go_wp2
        go_ret
        exact ⟨_, by first | rfl | (simp [errW_none, errW_some] <;> rfl) | (simp [*, errW_none, errW_some] <;> rfl), by (with_reducible repeat (first | apply Kd.S_alloc | apply Kd.S_drewN | apply Kd.S_drew)); exact HO_3.out, by repeat (first | (with_reducible first | exact HB.out | apply below_alloc | apply pw_below_drewN | apply below_drew1) | exact HB.out)⟩

-- NOT PRINTED: function 5 (prolepsislaw05_CellStays)

end Go.Proofs.Ytblcmcdifgclcaa.PCellStays
