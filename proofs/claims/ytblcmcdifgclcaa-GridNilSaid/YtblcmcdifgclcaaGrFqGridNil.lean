/- GridNil: what its proof leads to. No condition. -/
import Derived.Test.YtblcmcdifgclcaaGrEqGridNil
namespace Go.Proofs.Ytblcmcdifgclcaa.Grd
open Go.RowKit Go.Proofs.Ytblcmcdifgclcaa Go.Proofs.Ytblcmcdifgclcaa.PGridSame Go.Proofs.YtblcmcdifgclcaaW.PrintWords Go.Proofs.YtblcmcdifgclcaaW.PrintLast Go.Proofs.YtblcmcdifgclcaaW.PrintMore
set_option linter.unusedVariables false
set_option linter.unusedSimpArgs false
set_option maxRecDepth 100000
set_option maxHeartbeats 4000000
attribute [local go_sem] max2_int min2_int max_two min_two
theorem side_ok {x : Int} (h : 1 ≤ x ∧ x ≤ 512) : grid_side.f x = some true := by unfold grid_side.f; rw [if_pos h.1, decide_eq_true h.2]
theorem New_any (rows cols : Int) (hs : gSize rows cols = true) (w : World) :
    Calls Try.prog 76 #[.int .i64 rows, .int .i64 cols] w fun e w' => ∃ g, e = .returned (.tuple #[.pointer (some ⟨g, 0, none⟩), .int .i64 0]) ∧ Fresh w w' g (gNew rows cols) := by
  have HG := Aside0.mk (gNew_ok hs)
  unfold gSize at hs
  rw [Bool.and_eq_true, decide_eq_true_eq, decide_eq_true_eq] at hs
  obtain ⟨h1, h2⟩ := hs
  obtain ⟨n, rfl⟩ : ∃ n : Nat, rows = (n : Int) := ⟨rows.toNat, by omega⟩
  obtain ⟨m, rfl⟩ : ∃ m : Nat, cols = (m : Int) := ⟨cols.toNat, by omega⟩
  have HS1 := Aside0.mk (side_ok h1)
  have HS2 := Aside0.mk (side_ok h2)
  have HNM := Aside0.mk (And.intro h1 h2)
  have HL := Aside0.mk (lenC_id h2)
  clear h1 h2
  go_enter Try.func76, Try.ntmps76
  go_wp2_with (first | (go_at_call 112; refine (grid_side.calls (n : Int) _ _ HS1.out).mono ?_; rintro e w1 ⟨rfl, hd⟩; have H1 := Aside0.mk hd.below; clear hd) | (go_at_call 112; refine (grid_side.calls (m : Int) _ _ HS2.out).mono ?_; rintro e w2 ⟨rfl, hd⟩; have H2 := Aside0.mk (below_step H1.out hd.below); clear hd))
  have HB0 := Aside0.mk (GB.new H2.out 0 0 m)
  obtain ⟨g, hg⟩ : ∃ g, w2.heap.size = g := ⟨_, rfl⟩
  rw [hg] at HB0 ⊢
  obtain ⟨wl, hwl⟩ : ∃ wl, w2.alloc (.cells #[.int .i64 0, .int .i64 0, .slice none 0 0, .int .i64 m] 139 (0, 0)) = wl := ⟨_, rfl⟩
  rw [hwl] at HB0 ⊢
  obtain ⟨lb, hlb⟩ : ∃ lb, List.replicate (lenC (m : Int)) (blankP 0 0 0) = lb := ⟨_, rfl⟩
  have HLB := Aside0.mk hlb
  have HNW := Aside0.mk (show line_New.f 1000 (m : Int) = some lb by rw [New_ok (m : Int) 1000 (by omega), hlb])
  clear hg hwl hlb H1 H2 HS1 HS2
  go_loopg [19] (n + 1) (fun kq v19 w' => ∃ (i : Nat) (v : Value), v19 = .int .i64 i ∧ Aside0 (kq = n - i + 1 ∧ i ≤ n) ∧ Aside0 (GB w w' g 0 0 m v (List.replicate i lb)))
  case atStart => exact ⟨0, _, by go_num, ⟨by omega, by omega⟩, HB0⟩
  case round =>
    obtain ⟨i, v, rfl, HK, HB⟩ := hrel
    by_cases hi : i < n
    · have hT : decide (i < n) = true := decide_eq_true (by omega)
      have hw1 : wrap64 ((i : Int) + 1) = ((i + 1 : Nat) : Int) := by rw [w64 (by omega) (by have := HNM.out; omega)]; omega
      have HI := Aside0.mk hi
      have hc2 := HB.out.cell.1
      clear hi
      go_wp2
      refine start_ (n := 12) (S := fun w' => w'.cell? ⟨g, 2, none⟩ = some v) (ds := [8, 11]) #[false, false, false, false, false, false, false, false, false, false, false, false] (by kernel_rfl) rfl rfl (hc2) (fun hHeld => ?_)
      refine pure_ (i := 0) (N := some 21) (v := ?_) (a' := ?_) #[true, false, false, false, false, false, false, false, false, false, false, false] rfl rfl (by kernel_rfl) (fun _ _ _ h => h) (Or.inl ⟨by rfl, ?_⟩) ?_ ?_
      rotate_left
      · intro w'
        go_simp
        with_reducible rfl
      rotate_left
      · simp only [Act.put, List.setIfInBounds_toArray, List.set_cons_zero, List.set_cons_succ, i64_w, i32_w]
        rfl
      refine pure_ (i := 1) (N := some 22) (v := ?_) (a' := ?_) #[true, true, false, false, false, false, false, false, false, false, false, false] rfl rfl (by kernel_rfl) (fun _ _ _ h => h) (Or.inl ⟨by rfl, ?_⟩) ?_ ?_
      rotate_left
      · intro w'
        go_simp
        with_reducible rfl
      rotate_left
      · simp only [Act.put, List.setIfInBounds_toArray, List.set_cons_zero, List.set_cons_succ, i64_w, i32_w]
        rfl
      refine pure_ (i := 2) (N := some 23) (v := ?_) (a' := ?_) #[true, true, true, false, false, false, false, false, false, false, false, false] rfl rfl (by kernel_rfl) (fun _ _ _ h => h) (Or.inl ⟨by rfl, ?_⟩) ?_ ?_
      rotate_left
      · intro w'
        go_simp
        with_reducible rfl
      rotate_left
      · simp only [Act.put, List.setIfInBounds_toArray, List.set_cons_zero, List.set_cons_succ, i64_w, i32_w]
        rfl
      refine pure_ (i := 3) (N := some 24) (v := ?_) (a' := ?_) #[true, true, true, true, false, false, false, false, false, false, false, false] rfl rfl (by kernel_rfl) (fun _ _ _ h => h) (Or.inl ⟨by rfl, ?_⟩) ?_ ?_
      rotate_left
      · intro w'
        go_simp
        with_reducible rfl
      rotate_left
      · simp only [Act.put, List.setIfInBounds_toArray, List.set_cons_zero, List.set_cons_succ, i64_w, i32_w]
        rfl
      refine pure_ (i := 5) (N := some 26) (v := ?_) (a' := ?_) #[true, true, true, true, false, true, false, false, false, false, false, false] rfl rfl (by kernel_rfl) (fun _ _ _ h => h) (Or.inl ⟨by rfl, ?_⟩) ?_ ?_
      rotate_left
      · intro w'
        go_simp
        with_reducible rfl
      rotate_left
      · simp only [Act.put, List.setIfInBounds_toArray, List.set_cons_zero, List.set_cons_succ, i64_w, i32_w]
        rfl
      refine take_ (i := 4) (N := some 25) (v := ?_) (a' := ?_) #[true, true, true, true, true, true, false, false, false, false, false, false] rfl rfl (by kernel_rfl) (fun _ _ _ h => h) (Or.inl ⟨by rfl, ?_⟩) hHeld ?_ ?_
      rotate_left
      · intro w' s0
        go_simp
        with_reducible rfl
      rotate_left
      · simp only [Act.put, List.setIfInBounds_toArray, List.set_cons_zero, List.set_cons_succ, i64_w, i32_w]
        rfl
      refine one_ (i := 6) (N := some 27) #[true, true, true, true, true, true, true, false, false, false, false, false] rfl rfl (by kernel_rfl) (by decide) (fun K hK => ?_)
      refine goes_ Try.func51 (by kernel_rfl) rfl #[.int .i64 m] (by rfl) rfl rfl (by first | (simp only [List.map_toArray, List.map_cons, List.map_nil]; done) | (simp only [List.map_toArray, List.map_cons, List.map_nil]; rfl)) ?_
      with_reducible refine (line_New.calls 1000 (m : Int) lb _ HNW.out).mono ?_
      rintro e w6 ⟨v6, rfl, hR, hb⟩
      refine ⟨_, rfl, ?_⟩
      obtain ⟨A6, c6, rfl, hc6, -⟩ := Kd.R_reads hR
      have H6 := Aside0.mk (And.intro (HB.out.below (below_step (by repeat (first | exact Below.refl _ _ | apply below_alloc | apply pw_below_drewN | apply below_drew1 | (refine Below.setCell ?_ (by simp) _))) hb)) (show Kd.FK kL w6 (fun k => wr.heap.size ≤ k) lb [.slice A6 lb.length c6] from Kd.FK_slice_mk hc6 (Kd.F_mono (Kd.R_F (Kd.R_bound hR)) (fun k hk => hk.2.1))))
      clear hR hb hc6
      refine hK.out _ _ (H6.out.1.cell.1) (fun hHeld => ?_)
      clear hK K
      refine norm_ (a' := ?_) ?_ ?_
      rotate_left
      · show Act.put _ (some 27) _ = _
        simp only [Act.put, List.setIfInBounds_toArray, List.set_cons_zero, List.set_cons_succ, i64_w, i32_w]
        rfl
      refine one_ (i := 7) (N := some 28) #[true, true, true, true, true, true, true, true, false, false, false, false] rfl rfl (by kernel_rfl) (by decide) (fun K hK => ?_)
      refine value_ (w1 := ?_) (v := ?_) (by rfl) rfl ?_ ?_
      rotate_left 2
      · go_simp
        constructor
        · rfl
        · rfl
      refine hK.out _ _ ((H6.out.1.below (by repeat (first | exact Below.refl _ _ | apply below_alloc | apply pw_below_drewN | apply below_drew1 | (refine Below.setCell ?_ (by simp) _)))).cell.1) (fun hHeld => ?_)
      clear hK K
      refine norm_ (a' := ?_) ?_ ?_
      rotate_left
      · show Act.put _ (some 28) _ = _
        simp only [Act.put, List.setIfInBounds_toArray, List.set_cons_zero, List.set_cons_succ, i64_w, i32_w]
        rfl
      refine last_ (i := 8) (N := some 29) #[true, true, true, true, true, true, true, true, true, false, false, false] rfl rfl (by kernel_rfl) (by decide) (fun K hK => ?_)
      refine Kd.N_append_step kL (w0 := w6) (g + 1) (by rfl) (.tmp 25) (.tmp 28) 137 58 (.slice none 0 0) 24 (by rfl) Try.underlying137 infoLn rfl (by decide) (by omega) v (List.replicate i lb) lb [.slice A6 lb.length c6] (fun k => g < k) (fun k => wr.heap.size ≤ k) (by rfl) (by rfl) (Kd.FK_below H6.out.2 (by repeat (first | exact Below.refl _ _ | apply below_alloc | apply pw_below_drewN | apply below_drew1 | (refine Below.setCell ?_ (by simp) _)))) ?hokp ?hfresh (Kd.N_below H6.out.1.rows (by repeat (first | exact Below.refl _ _ | apply below_alloc | apply pw_below_drewN | apply below_drew1 | (refine Below.setCell ?_ (by simp) _)))) (by repeat (first | exact Below.refl _ _ | apply below_alloc | apply pw_below_drewN | apply below_drew1 | (refine Below.setCell ?_ (by simp) _))) ?hsz ?hlen ?_
      case hokp => intro k hk; exact ⟨Nat.lt_of_lt_of_le HB.out.lt hk, fun e => by have := Kd.N_lt HB.out.rows k e.symm; omega⟩
      case hfresh => intro k hk; exact Nat.lt_of_lt_of_le H6.out.1.lt hk
      case hsz => exact H6.out.1.lt
      case hlen => have := HNM.out; have := HI.out; rw [List.length_replicate]; omega
      intro v8 w8 ho hb hg8 hat
      obtain ⟨A8, c8, e8⟩ := Kd.N_slice ho
      generalize (List.replicate i lb ++ [lb]).length = n8 at e8
      subst e8
      have H8 := Aside0.mk (H6.out.1.more ho hg8)
      have hc8 := H8.out.1
      have hz8 := H8.out.2.1
      clear ho hb hg8 hat
      refine hK.out _ _ ?_
      clear hK K
      refine norm_ (a' := ?_) ?_ ?_
      rotate_left
      · show Act.put _ (some 29) _ = _
        simp only [Act.put, List.setIfInBounds_toArray, List.set_cons_zero, List.set_cons_succ, i64_w, i32_w]
        rfl
      refine pure_ (i := 9) (N := some 30) (v := ?_) (a' := ?_) #[true, true, true, true, true, true, true, true, true, true, false, false] rfl rfl (by kernel_rfl) (fun _ _ _ h => h) (Or.inl ⟨by rfl, ?_⟩) ?_ ?_
      rotate_left
      · intro w'
        go_simp
        with_reducible rfl
      rotate_left
      · simp only [Act.put, List.setIfInBounds_toArray, List.set_cons_zero, List.set_cons_succ, i64_w, i32_w]
        rfl
      refine pure_ (i := 10) (N := some 31) (v := ?_) (a' := ?_) #[true, true, true, true, true, true, true, true, true, true, true, false] rfl rfl (by kernel_rfl) (fun _ _ _ h => h) (Or.inl ⟨by rfl, ?_⟩) ?_ ?_
      rotate_left
      · intro w'
        go_simp
        with_reducible rfl
      rotate_left
      · simp only [Act.put, List.setIfInBounds_toArray, List.set_cons_zero, List.set_cons_succ, i64_w, i32_w]
        rfl
      refine last_ (i := 11) (N := none) #[true, true, true, true, true, true, true, true, true, true, true, true] rfl rfl (by kernel_rfl) (by decide) (fun K hK => ?_)
      refine skip_ (w1 := ?_) (by rfl) rfl ?_ ?_
      rotate_left
      · go_simp
        rfl
      refine hK.out _ _ ?_
      clear hK K
      refine done_ (by kernel_rfl) ?_
      all_goals go_wp2
      all_goals go_roundg (n - (i + 1) + 1)
      all_goals first | (case measure => have := HK.out; have := HI.out; omega) | (case rel => exact ⟨i + 1, _, by go_num, ⟨rfl, by have := HI.out; omega⟩, ⟨by rw [List.replicate_succ']; exact H8.out.2.2⟩⟩)
    · have hT : decide (i < n) = false := decide_eq_false hi
      obtain rfl : i = n := by have := HK.out; omega
      clear hi
      go_wp2
      all_goals go_ret2
      refine ⟨g, rfl, ?_⟩
      have := HB.out.done (by have := HG.out; unfold gNew at this; rw [HLB.out] at this; exact this)
      unfold gNew
      rw [HLB.out]
      exact this
end Go.Proofs.Ytblcmcdifgclcaa.Grd
