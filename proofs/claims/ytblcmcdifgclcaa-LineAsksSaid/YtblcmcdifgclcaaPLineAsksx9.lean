/- What the law LineAsks reaches: each function with its contract. -/
import Derived.Test.YtblcmcdifgclcaaPLineAsksx0
import Derived.Test.YtblcmcdifgclcaaPLineAsksx1
import Derived.Test.YtblcmcdifgclcaaPLineAsksx3
import Derived.Test.YtblcmcdifgclcaaPLineAsksx4
namespace Go.Proofs.Ytblcmcdifgclcaa.PLineAsks
open Go.RowKit Go.Proofs.YtblcmcdifgclcaaW.PrintWords Go.Proofs.YtblcmcdifgclcaaW.PrintLast Go.Proofs.YtblcmcdifgclcaaW.PrintMore
attribute [local go_sem] max2_int min2_int max_two min_two max_three min_three max_four min_four   -- for this text's walks alone
set_option linter.unusedVariables false
set_option linter.unusedSimpArgs false

attribute [local go_sem high] eqA26 eqA32
/-! ### line_Used: function 55 -/
def line_Used.l0 : Nat → List (S26) → Int → Option (Int)
  | 0, _, _ => none
  | k + 1, x0, x3 => if x3 > 0 then (if 0 ≤ (wrap64 (x3 - 1)) then (if (wrap64 (x3 - 1)) < (x0.length : Int) then ((cell_Blank.f 0 0 0).bind fun bt233 => (if (((rd_T26 x0 (wrap64 (x3 - 1))).f0) == bt233.1 && ((((rd_T26 x0 (wrap64 (x3 - 1))).f1.f0) == bt233.2.1 && (((rd_T26 x0 (wrap64 (x3 - 1))).f1.f1) == bt233.2.2.1)) && (((rd_T26 x0 (wrap64 (x3 - 1))).f2) == bt233.2.2.2.1 && ((((rd_T26 x0 (wrap64 (x3 - 1))).f3.f0) == bt233.2.2.2.2.1 && (((rd_T26 x0 (wrap64 (x3 - 1))).f3.f1) == bt233.2.2.2.2.2.1 && (((rd_T26 x0 (wrap64 (x3 - 1))).f3.f2) == bt233.2.2.2.2.2.2))))))) = true then (line_Used.l0 k x0 (wrap64 (x3 - 1))) else (some x3))) else (none)) else (none)) else (some x3)
def line_Used.f (k : Nat) (l0 : List (S26)) : Option (Int) := line_Used.l0 k l0 (l0.length : Int)
def line_Used.T2 : Bool × List (List Nat × List Nat) := (true, [([], []), ([0], [0]), ([1], [1]), ([2], [2]), ([2], [2]), ([4, 2], [2, 4]), ([3, 5, 2], [2, 3, 5]), ([6, 2], [2, 6]), ([2], [2]), ([8, 2, 2], [2, 8]), ([7, 9, 2], [2, 7, 9]), ([2, 10], [2, 10])])
def line_Used.B2 : List Nat := [0, 1, 3, 7, 7, 23, 63, 127, 7, 263, 1023, 2047]
theorem line_Used.tab2 : rtab .any (opsOf Try.f55 2) = line_Used.T2 := by kernel_rfl
theorem line_Used.bits2 : waitsOk line_Used.T2.2 line_Used.B2 = true := by kernel_rfl
set_option maxHeartbeats 8000000 in
set_option maxRecDepth 100000 in
theorem line_Used.calls (k : Nat) (A0 : Option Addr) (c0 : Nat) (l0 : List (S26)) (r : Int) (w : World) (hr0 : Kd.C k26 w A0 l0.length l0) (hc0 : l0.length ≤ c0) (h : line_Used.f k l0 = some r) :
    Calls Try.prog 55 #[.slice A0 l0.length c0] w fun e w' => e = .returned (.int .i64 r) ∧ Below w.heap.size w w' := by
  have hu26 := Try.underlying26
  have hu24 := Try.underlying24
  have HR0 := Aside0.mk hr0
  have HC0 := Aside0.mk hc0
  clear hr0 hc0
  have HB := Aside0.mk (Below.refl w.heap.size w)
  have H : (line_Used.l0 k l0 (l0.length : Int)) = some r := h
  clear h
  have H' := Aside0.mk H
  clear H
  go_enter Try.func55, Try.ntmps55
  go_wp2
  go_loopg [3] k (fun kq v3 w' => ∃ (x3_1 : Int), v3 = .int .i64 x3_1 ∧ Aside0 (line_Used.l0 kq l0 x3_1 = some r) ∧ Aside0 (kq ≤ k) ∧ Aside0 (Below w.heap.size w w'))
  case atStart => exact ⟨((l0.length : Int)), (by first | rfl | (simp; done) | (simp [*]; done)), H', ⟨Nat.le_refl _⟩, ⟨by repeat (first | (with_reducible first | exact HB.out | apply below_alloc | apply pw_below_drewN | apply below_drew1) | exact HB.out)⟩⟩
  case round =>
    clear H'
    obtain ⟨x3_1, rfl, HA, HK1, HB⟩ := hrel
    cases gk with
    | zero => exact absurd HA.out (by simp [line_Used.l0])
    | succ k1 =>
      have H := HA.out
      clear HA
      simp only [line_Used.l0] at H
      by_cases c2 : x3_1 > 0
      · rw [if_pos c2] at H
        have c2b0 : decide (0 < x3_1) = true := decide_eq_true c2
        clear c2
        obtain ⟨ji3, hji3⟩ : ∃ j_ : Int, (wrap64 (x3_1 - 1)) = j_ := ⟨_, rfl⟩
        replace H : (if 0 ≤ (ji3) then (if (ji3) < (l0.length : Int) then ((cell_Blank.f 0 0 0).bind fun bt233 => (if (((rd_T26 l0 (ji3)).f0) == bt233.1 && ((((rd_T26 l0 (ji3)).f1.f0) == bt233.2.1 && (((rd_T26 l0 (ji3)).f1.f1) == bt233.2.2.1)) && (((rd_T26 l0 (ji3)).f2) == bt233.2.2.2.1 && ((((rd_T26 l0 (ji3)).f3.f0) == bt233.2.2.2.2.1 && (((rd_T26 l0 (ji3)).f3.f1) == bt233.2.2.2.2.2.1 && (((rd_T26 l0 (ji3)).f3.f2) == bt233.2.2.2.2.2.2))))))) = true then (line_Used.l0 k1 l0 ji3) else (some x3_1))) else (none)) else (none)) = some r := by first | (rw [hji3] at H; exact H) | (simp only [hji3] at H ⊢; exact H)
        have hji3w : (IntKind.i64.wrap (x3_1 - 1)) = ji3 := (i64_w _).trans hji3
        by_cases c4 : 0 ≤ (ji3)
        · rw [if_pos c4] at H
          have c4b0 : decide (0 ≤ (ji3)) = true := decide_eq_true c4
          clear c4
          by_cases c5 : (ji3) < (l0.length : Int)
          · rw [if_pos c5] at H
            have c5b0 : decide ((ji3) < (l0.length : Int)) = true := decide_eq_true c5
            clear c5
            replace H := Option.bind_eq_some_iff.mp H
            obtain ⟨⟨t233, t234, t235, t236, t237, t238, t239⟩, A60, H⟩ := H
            replace H : (if (((rd_T26 l0 (ji3)).f0) == t233 && ((((rd_T26 l0 (ji3)).f1.f0) == t234 && (((rd_T26 l0 (ji3)).f1.f1) == t235)) && (((rd_T26 l0 (ji3)).f2) == t236 && ((((rd_T26 l0 (ji3)).f3.f0) == t237 && (((rd_T26 l0 (ji3)).f3.f1) == t238 && (((rd_T26 l0 (ji3)).f3.f2) == t239))))))) = true then (line_Used.l0 k1 l0 ji3) else (some x3_1)) = some r := H
            have A6 := Aside0.mk A60
            clear A60
            by_cases c7 : (((rd_T26 l0 (ji3)).f0) == t233 && ((((rd_T26 l0 (ji3)).f1.f0) == t234 && (((rd_T26 l0 (ji3)).f1.f1) == t235)) && (((rd_T26 l0 (ji3)).f2) == t236 && ((((rd_T26 l0 (ji3)).f3.f0) == t237 && (((rd_T26 l0 (ji3)).f3.f1) == t238 && (((rd_T26 l0 (ji3)).f3.f2) == t239))))))) = true
            · rw [if_pos c7] at H
              have c7b0 : (((rd_T26 l0 (ji3)).f0) == t233 && ((((rd_T26 l0 (ji3)).f1.f0) == t234 && (((rd_T26 l0 (ji3)).f1.f1) == t235)) && (((rd_T26 l0 (ji3)).f2) == t236 && ((((rd_T26 l0 (ji3)).f3.f0) == t237 && (((rd_T26 l0 (ji3)).f3.f1) == t238 && (((rd_T26 l0 (ji3)).f3.f2) == t239))))))) = true := c7
              (try (have c7b1 : decide (((rd_T26 l0 (ji3)).f0) = t233 && ((((rd_T26 l0 (ji3)).f1.f0) == t234 && (((rd_T26 l0 (ji3)).f1.f1) == t235)) && (((rd_T26 l0 (ji3)).f2) == t236 && ((((rd_T26 l0 (ji3)).f3.f0) == t237 && (((rd_T26 l0 (ji3)).f3.f1) == t238 && (((rd_T26 l0 (ji3)).f3.f2) == t239))))))) = true := by simpa using c7))
              (try (have c7b2 : (((rd_T26 l0 (ji3)).f0) == t233 && ((((rd_T26 l0 (ji3)).f1.f0) == t234 && (((rd_T26 l0 (ji3)).f1.f1) == t235)) && (((rd_T26 l0 (ji3)).f2) == t236 && ((((rd_T26 l0 (ji3)).f3.f0) == t237 && (((rd_T26 l0 (ji3)).f3.f1) == t238 && (((rd_T26 l0 (ji3)).f3.f2) == t239))))))) = true := by simpa using c7))
              clear c7
              have H' := Aside0.mk H
              clear H
              try go_wp2
              have n0_ := Aside0.mk (below_drew1 HB.out)
              clear HB
              have HB := n0_
              clear n0_
              have p232 : 0 ≤ ((ji3) : Int) := of_decide_eq_true (by first | (with_reducible assumption) | assumption)
              have q232 : (ji3) < (l0.length : Int) := of_decide_eq_true (by first | (with_reducible assumption) | assumption)
              obtain ⟨ad232, e232, hx232_0, hx232_1, hx232_2, hx232_3, hx232_4, hx232_5, hx232_6⟩ := at_T26 HR0.out (ji3) p232 q232
              have hw232_6 := hx232_6
              have hw232_5 := hx232_5
              have hw232_4 := hx232_4
              have hw232_3 := hx232_3
              have hw232_2 := hx232_2
              have hw232_1 := hx232_1
              have hw232_0 := hx232_0
              cases e232
              replace hx232_0 := (HB.out.cell (World.block_lt_of_cell? w _ hx232_0)).trans hx232_0
              replace hx232_1 := (HB.out.cell (World.block_lt_of_cell? w _ hx232_1)).trans hx232_1
              replace hx232_2 := (HB.out.cell (World.block_lt_of_cell? w _ hx232_2)).trans hx232_2
              replace hx232_3 := (HB.out.cell (World.block_lt_of_cell? w _ hx232_3)).trans hx232_3
              replace hx232_4 := (HB.out.cell (World.block_lt_of_cell? w _ hx232_4)).trans hx232_4
              replace hx232_5 := (HB.out.cell (World.block_lt_of_cell? w _ hx232_5)).trans hx232_5
              replace hx232_6 := (HB.out.cell (World.block_lt_of_cell? w _ hx232_6)).trans hx232_6
              replace p232 := eq_true p232
              replace q232 := eq_true q232
              refine start_ (n := 12) (S := fun w' => w'.cell? (ad232.add (((ji3)).toNat * 7)) = some (.int .i32 ((rd_T26 l0 (ji3)).f0)) ∧ w'.cell? ⟨(ad232.add (((ji3)).toNat * 7)).block, (ad232.add (((ji3)).toNat * 7)).off + 1, none⟩ = some (.int .i32 ((rd_T26 l0 (ji3)).f1.f0)) ∧ w'.cell? ⟨(ad232.add (((ji3)).toNat * 7)).block, (ad232.add (((ji3)).toNat * 7)).off + 2, none⟩ = some (.int .i32 ((rd_T26 l0 (ji3)).f1.f1)) ∧ w'.cell? ⟨(ad232.add (((ji3)).toNat * 7)).block, (ad232.add (((ji3)).toNat * 7)).off + 3, none⟩ = some (.int .u8 ((rd_T26 l0 (ji3)).f2)) ∧ w'.cell? ⟨(ad232.add (((ji3)).toNat * 7)).block, (ad232.add (((ji3)).toNat * 7)).off + 4, none⟩ = some (.int .u8 ((rd_T26 l0 (ji3)).f3.f0)) ∧ w'.cell? ⟨(ad232.add (((ji3)).toNat * 7)).block, (ad232.add (((ji3)).toNat * 7)).off + 5, none⟩ = some (.int .u8 ((rd_T26 l0 (ji3)).f3.f1)) ∧ w'.cell? ⟨(ad232.add (((ji3)).toNat * 7)).block, (ad232.add (((ji3)).toNat * 7)).off + 6, none⟩ = some (.int .u8 ((rd_T26 l0 (ji3)).f3.f2))) (ds := []) #[false, false, false, false, false, false, false, false, false, false, false, false] (by kernel_rfl) rfl rfl ⟨((HB.out.cell (World.block_lt_of_cell? w _ hw232_0)).trans hw232_0), ((HB.out.cell (World.block_lt_of_cell? w _ hw232_1)).trans hw232_1), ((HB.out.cell (World.block_lt_of_cell? w _ hw232_2)).trans hw232_2), ((HB.out.cell (World.block_lt_of_cell? w _ hw232_3)).trans hw232_3), ((HB.out.cell (World.block_lt_of_cell? w _ hw232_4)).trans hw232_4), ((HB.out.cell (World.block_lt_of_cell? w _ hw232_5)).trans hw232_5), ((HB.out.cell (World.block_lt_of_cell? w _ hw232_6)).trans hw232_6)⟩ (fun hHeld => ?_); refine with_tabW line_Used.tab2 line_Used.bits2 (fun HT_ HW_ => ?_)
              generalize wr.drew = w8 at HB hx232_0 hx232_1 hx232_2 hx232_3 hx232_4 hx232_5 hx232_6 hHeld ⊢
              refine pure_ (i := 0) (N := some 6) (v := ?_) (a' := ?_) #[true, false, false, false, false, false, false, false, false, false, false, false] rfl rfl (any_of HT_.out (by kernel_rfl)) (fun _ _ _ h => h) (Or.inl ⟨by rfl, ?_⟩) ?_ ?_
              rotate_left
              · intro w'
                go_simp
                with_reducible rfl
              rotate_left
              · simp only [Act.put, List.setIfInBounds_toArray, List.set_cons_zero, List.set_cons_succ, i64_w, i32_w]
                rfl
              refine pure_ (i := 1) (N := some 7) (v := ?_) (a' := ?_) #[true, true, false, false, false, false, false, false, false, false, false, false] rfl rfl (any_of HT_.out (by kernel_rfl)) (fun _ _ _ h => h) (Or.inl ⟨by rfl, ?_⟩) ?_ ?_
              rotate_left
              · intro w'
                go_simp
                with_reducible rfl
              rotate_left
              · simp only [Act.put, List.setIfInBounds_toArray, List.set_cons_zero, List.set_cons_succ, i64_w, i32_w]
                rfl
              refine pure_ (i := 2) (N := some 8) (v := ?_) (a' := ?_) #[true, true, true, false, false, false, false, false, false, false, false, false] rfl rfl (any_of HT_.out (by kernel_rfl)) (fun _ _ _ h => h) (Or.inl ⟨by rfl, ?_⟩) ?_ ?_
              rotate_left
              · intro w'
                go_simp
                with_reducible rfl
              rotate_left
              · simp only [Act.put, List.setIfInBounds_toArray, List.set_cons_zero, List.set_cons_succ, i64_w, i32_w]
                rfl
              refine pure_ (i := 3) (N := some 9) (v := ?_) (a' := ?_) #[true, true, true, true, false, false, false, false, false, false, false, false] rfl rfl (any_of HT_.out (by kernel_rfl)) (fun _ _ _ h => h) (Or.inl ⟨by rfl, ?_⟩) ?_ ?_
              rotate_left
              · intro w'
                go_simp
                with_reducible rfl
              rotate_left
              · simp only [Act.put, List.setIfInBounds_toArray, List.set_cons_zero, List.set_cons_succ, i64_w, i32_w]
                rfl
              refine pure_ (i := 4) (N := some 10) (v := ?_) (a' := ?_) #[true, true, true, true, true, false, false, false, false, false, false, false] rfl rfl (any_of HT_.out (by kernel_rfl)) (fun _ _ _ h => h) (Or.inl ⟨by rfl, ?_⟩) ?_ ?_
              rotate_left
              · intro w'
                go_simp
                with_reducible rfl
              rotate_left
              · simp only [Act.put, List.setIfInBounds_toArray, List.set_cons_zero, List.set_cons_succ, i64_w, i32_w]
                rfl
              refine pure_ (i := 5) (N := some 11) (v := ?_) (a' := ?_) #[true, true, true, true, true, true, false, false, false, false, false, false] rfl rfl (any_of HT_.out (by kernel_rfl)) (fun _ _ _ h => h) (Or.inl ⟨by rfl, ?_⟩) ?_ ?_
              rotate_left
              · intro w'
                go_simp
                with_reducible rfl
              rotate_left
              · simp only [Act.put, List.setIfInBounds_toArray, List.set_cons_zero, List.set_cons_succ, i64_w, i32_w]
                rfl
              refine pure_ (i := 6) (N := some 12) (v := ?_) (a' := ?_) #[true, true, true, true, true, true, true, false, false, false, false, false] rfl rfl (any_of HT_.out (by kernel_rfl)) (fun _ _ _ h => h) (Or.inl ⟨by rfl, ?_⟩) ?_ ?_
              rotate_left
              · intro w'
                go_simp
                with_reducible rfl
              rotate_left
              · simp only [Act.put, List.setIfInBounds_toArray, List.set_cons_zero, List.set_cons_succ, i64_w, i32_w]
                rfl
              refine pure_ (i := 8) (N := some 14) (v := ?_) (a' := ?_) #[true, true, true, true, true, true, true, false, true, false, false, false] rfl rfl (any_of HT_.out (by kernel_rfl)) (fun _ _ _ h => h) (Or.inl ⟨by rfl, ?_⟩) ?_ ?_
              rotate_left
              · intro w'
                go_simp
                with_reducible rfl
              rotate_left
              · simp only [Act.put, List.setIfInBounds_toArray, List.set_cons_zero, List.set_cons_succ, i64_w, i32_w]
                rfl
              refine take_ (i := 7) (N := some 13) (v := ?_) (a' := ?_) #[true, true, true, true, true, true, true, true, true, false, false, false] rfl rfl (take_ofW HT_.out HW_.out (by kernel_rfl)) (fun _ _ _ h => h) (Or.inl ⟨by rfl, ?_⟩) hHeld ?_ ?_
              rotate_left
              · rintro w' ⟨s0, s1, s2, s3, s4, s5, s6⟩
                go_simp
                with_reducible rfl
              rotate_left
              · simp only [Act.put, List.setIfInBounds_toArray, List.set_cons_zero, List.set_cons_succ, i64_w, i32_w]
                rfl
              refine one_ (i := 9) (N := some 15) #[true, true, true, true, true, true, true, true, true, true, false, false] rfl rfl (one_of HT_.out (by kernel_rfl)) (by decide) (fun K hK => ?_)
              refine goes_ Try.func21 (by kernel_rfl) rfl #[.agg #[.int .u8 0, .int .u8 0, .int .u8 0]] (by rfl) rfl rfl (by (try simp only [List.map_toArray, List.map_cons, List.map_nil]); first | done | rfl | (simp only [List.length_drop, List.length_take]; rfl)) ?_
              with_reducible refine (cell_Blank.calls 0 0 0 t233 t234 t235 t236 t237 t238 t239 _ A6.out).mono ?_
              rintro e w9 ⟨rfl, hb⟩
              refine ⟨_, rfl, ?_⟩
              have n0_ := Aside0.mk (below_step (by repeat (first | (with_reducible first | exact HB.out | apply below_alloc | apply pw_below_drewN | apply below_drew1) | exact HB.out)) hb)
              clear HB
              have HB := n0_
              clear n0_
              (try clear hb)
              (try clear hb2)
              (try clear hk)
              (try clear hi)
              refine hK.out _ _ ⟨((HB.out.cell (World.block_lt_of_cell? w _ hw232_0)).trans hw232_0), ((HB.out.cell (World.block_lt_of_cell? w _ hw232_1)).trans hw232_1), ((HB.out.cell (World.block_lt_of_cell? w _ hw232_2)).trans hw232_2), ((HB.out.cell (World.block_lt_of_cell? w _ hw232_3)).trans hw232_3), ((HB.out.cell (World.block_lt_of_cell? w _ hw232_4)).trans hw232_4), ((HB.out.cell (World.block_lt_of_cell? w _ hw232_5)).trans hw232_5), ((HB.out.cell (World.block_lt_of_cell? w _ hw232_6)).trans hw232_6)⟩ (fun hHeld => ?_)
              clear hK K
              refine norm_ (a' := ?_) ?_ ?_
              rotate_left
              · show Act.put _ (some 15) _ = _
                simp only [Act.put, List.setIfInBounds_toArray, List.set_cons_zero, List.set_cons_succ, i64_w, i32_w]
                rfl
              refine pure_ (i := 10) (N := some 16) (v := ?_) (a' := ?_) #[true, true, true, true, true, true, true, true, true, true, true, false] rfl rfl (any_of HT_.out (by kernel_rfl)) (fun _ _ _ h => h) (Or.inl ⟨by rfl, ?_⟩) ?_ ?_
              rotate_left
              · intro w'
                go_simp
                with_reducible rfl
              rotate_left
              · simp only [Act.put, List.setIfInBounds_toArray, List.set_cons_zero, List.set_cons_succ, i64_w, i32_w]
                rfl
              refine pure_ (i := 11) (N := some 17) (v := ?_) (a' := ?_) #[true, true, true, true, true, true, true, true, true, true, true, true] rfl rfl (any_of HT_.out (by kernel_rfl)) (fun _ _ _ h => h) (Or.inl ⟨by rfl, ?_⟩) ?_ ?_
              rotate_left
              · intro w'
                go_simp
                with_reducible rfl
              rotate_left
              · simp only [Act.put, List.setIfInBounds_toArray, List.set_cons_zero, List.set_cons_succ, i64_w, i32_w]
                rfl
              refine done_ (done_of HT_.out (by kernel_rfl)) ?_
              try go_wp2
              go_roundg k1
              case measure => have := HK1.out; omega
              case rel => exact ⟨(ji3), (by first | rfl | (simp; done) | (simp only [← hji3] <;> (first | rfl | simp)) | (simp [*]; done)), H', ⟨by have := HK1.out; omega⟩, ⟨by repeat (first | (with_reducible first | exact HB.out | apply below_alloc | apply pw_below_drewN | apply below_drew1) | exact HB.out)⟩⟩
            · rw [if_neg c7] at H
              have c7b0 : (((rd_T26 l0 (ji3)).f0) == t233 && ((((rd_T26 l0 (ji3)).f1.f0) == t234 && (((rd_T26 l0 (ji3)).f1.f1) == t235)) && (((rd_T26 l0 (ji3)).f2) == t236 && ((((rd_T26 l0 (ji3)).f3.f0) == t237 && (((rd_T26 l0 (ji3)).f3.f1) == t238 && (((rd_T26 l0 (ji3)).f3.f2) == t239))))))) = false := by simpa using c7
              (try (have c7b1 : decide (((rd_T26 l0 (ji3)).f0) = t233 && ((((rd_T26 l0 (ji3)).f1.f0) == t234 && (((rd_T26 l0 (ji3)).f1.f1) == t235)) && (((rd_T26 l0 (ji3)).f2) == t236 && ((((rd_T26 l0 (ji3)).f3.f0) == t237 && (((rd_T26 l0 (ji3)).f3.f1) == t238 && (((rd_T26 l0 (ji3)).f3.f2) == t239))))))) = false := by simpa using c7))
              (try (have c7b2 : (((rd_T26 l0 (ji3)).f0) == t233 && ((((rd_T26 l0 (ji3)).f1.f0) == t234 && (((rd_T26 l0 (ji3)).f1.f1) == t235)) && (((rd_T26 l0 (ji3)).f2) == t236 && ((((rd_T26 l0 (ji3)).f3.f0) == t237 && (((rd_T26 l0 (ji3)).f3.f1) == t238 && (((rd_T26 l0 (ji3)).f3.f2) == t239))))))) = false := by simpa using c7))
              (try (have c7b3 : ¬ (((rd_T26 l0 (ji3)).f0) = t233 && ((((rd_T26 l0 (ji3)).f1.f0) == t234 && (((rd_T26 l0 (ji3)).f1.f1) == t235)) && (((rd_T26 l0 (ji3)).f2) == t236 && ((((rd_T26 l0 (ji3)).f3.f0) == t237 && (((rd_T26 l0 (ji3)).f3.f1) == t238 && (((rd_T26 l0 (ji3)).f3.f2) == t239))))))) := by simpa using c7))
              clear c7
              obtain rfl := Option.some.inj H
              try go_wp2
              have n0_ := Aside0.mk (below_drew1 HB.out)
              clear HB
              have HB := n0_
              clear n0_
              have p232 : 0 ≤ ((ji3) : Int) := of_decide_eq_true (by first | (with_reducible assumption) | assumption)
              have q232 : (ji3) < (l0.length : Int) := of_decide_eq_true (by first | (with_reducible assumption) | assumption)
              obtain ⟨ad232, e232, hx232_0, hx232_1, hx232_2, hx232_3, hx232_4, hx232_5, hx232_6⟩ := at_T26 HR0.out (ji3) p232 q232
              have hw232_6 := hx232_6
              have hw232_5 := hx232_5
              have hw232_4 := hx232_4
              have hw232_3 := hx232_3
              have hw232_2 := hx232_2
              have hw232_1 := hx232_1
              have hw232_0 := hx232_0
              cases e232
              replace hx232_0 := (HB.out.cell (World.block_lt_of_cell? w _ hx232_0)).trans hx232_0
              replace hx232_1 := (HB.out.cell (World.block_lt_of_cell? w _ hx232_1)).trans hx232_1
              replace hx232_2 := (HB.out.cell (World.block_lt_of_cell? w _ hx232_2)).trans hx232_2
              replace hx232_3 := (HB.out.cell (World.block_lt_of_cell? w _ hx232_3)).trans hx232_3
              replace hx232_4 := (HB.out.cell (World.block_lt_of_cell? w _ hx232_4)).trans hx232_4
              replace hx232_5 := (HB.out.cell (World.block_lt_of_cell? w _ hx232_5)).trans hx232_5
              replace hx232_6 := (HB.out.cell (World.block_lt_of_cell? w _ hx232_6)).trans hx232_6
              replace p232 := eq_true p232
              replace q232 := eq_true q232
              refine start_ (n := 12) (S := fun w' => w'.cell? (ad232.add (((ji3)).toNat * 7)) = some (.int .i32 ((rd_T26 l0 (ji3)).f0)) ∧ w'.cell? ⟨(ad232.add (((ji3)).toNat * 7)).block, (ad232.add (((ji3)).toNat * 7)).off + 1, none⟩ = some (.int .i32 ((rd_T26 l0 (ji3)).f1.f0)) ∧ w'.cell? ⟨(ad232.add (((ji3)).toNat * 7)).block, (ad232.add (((ji3)).toNat * 7)).off + 2, none⟩ = some (.int .i32 ((rd_T26 l0 (ji3)).f1.f1)) ∧ w'.cell? ⟨(ad232.add (((ji3)).toNat * 7)).block, (ad232.add (((ji3)).toNat * 7)).off + 3, none⟩ = some (.int .u8 ((rd_T26 l0 (ji3)).f2)) ∧ w'.cell? ⟨(ad232.add (((ji3)).toNat * 7)).block, (ad232.add (((ji3)).toNat * 7)).off + 4, none⟩ = some (.int .u8 ((rd_T26 l0 (ji3)).f3.f0)) ∧ w'.cell? ⟨(ad232.add (((ji3)).toNat * 7)).block, (ad232.add (((ji3)).toNat * 7)).off + 5, none⟩ = some (.int .u8 ((rd_T26 l0 (ji3)).f3.f1)) ∧ w'.cell? ⟨(ad232.add (((ji3)).toNat * 7)).block, (ad232.add (((ji3)).toNat * 7)).off + 6, none⟩ = some (.int .u8 ((rd_T26 l0 (ji3)).f3.f2))) (ds := []) #[false, false, false, false, false, false, false, false, false, false, false, false] (by kernel_rfl) rfl rfl ⟨((HB.out.cell (World.block_lt_of_cell? w _ hw232_0)).trans hw232_0), ((HB.out.cell (World.block_lt_of_cell? w _ hw232_1)).trans hw232_1), ((HB.out.cell (World.block_lt_of_cell? w _ hw232_2)).trans hw232_2), ((HB.out.cell (World.block_lt_of_cell? w _ hw232_3)).trans hw232_3), ((HB.out.cell (World.block_lt_of_cell? w _ hw232_4)).trans hw232_4), ((HB.out.cell (World.block_lt_of_cell? w _ hw232_5)).trans hw232_5), ((HB.out.cell (World.block_lt_of_cell? w _ hw232_6)).trans hw232_6)⟩ (fun hHeld => ?_); refine with_tabW line_Used.tab2 line_Used.bits2 (fun HT_ HW_ => ?_)
              generalize wr.drew = w10 at HB hx232_0 hx232_1 hx232_2 hx232_3 hx232_4 hx232_5 hx232_6 hHeld ⊢
              refine pure_ (i := 0) (N := some 6) (v := ?_) (a' := ?_) #[true, false, false, false, false, false, false, false, false, false, false, false] rfl rfl (any_of HT_.out (by kernel_rfl)) (fun _ _ _ h => h) (Or.inl ⟨by rfl, ?_⟩) ?_ ?_
              rotate_left
              · intro w'
                go_simp
                with_reducible rfl
              rotate_left
              · simp only [Act.put, List.setIfInBounds_toArray, List.set_cons_zero, List.set_cons_succ, i64_w, i32_w]
                rfl
              refine pure_ (i := 1) (N := some 7) (v := ?_) (a' := ?_) #[true, true, false, false, false, false, false, false, false, false, false, false] rfl rfl (any_of HT_.out (by kernel_rfl)) (fun _ _ _ h => h) (Or.inl ⟨by rfl, ?_⟩) ?_ ?_
              rotate_left
              · intro w'
                go_simp
                with_reducible rfl
              rotate_left
              · simp only [Act.put, List.setIfInBounds_toArray, List.set_cons_zero, List.set_cons_succ, i64_w, i32_w]
                rfl
              refine pure_ (i := 2) (N := some 8) (v := ?_) (a' := ?_) #[true, true, true, false, false, false, false, false, false, false, false, false] rfl rfl (any_of HT_.out (by kernel_rfl)) (fun _ _ _ h => h) (Or.inl ⟨by rfl, ?_⟩) ?_ ?_
              rotate_left
              · intro w'
                go_simp
                with_reducible rfl
              rotate_left
              · simp only [Act.put, List.setIfInBounds_toArray, List.set_cons_zero, List.set_cons_succ, i64_w, i32_w]
                rfl
              refine pure_ (i := 3) (N := some 9) (v := ?_) (a' := ?_) #[true, true, true, true, false, false, false, false, false, false, false, false] rfl rfl (any_of HT_.out (by kernel_rfl)) (fun _ _ _ h => h) (Or.inl ⟨by rfl, ?_⟩) ?_ ?_
              rotate_left
              · intro w'
                go_simp
                with_reducible rfl
              rotate_left
              · simp only [Act.put, List.setIfInBounds_toArray, List.set_cons_zero, List.set_cons_succ, i64_w, i32_w]
                rfl
              refine pure_ (i := 4) (N := some 10) (v := ?_) (a' := ?_) #[true, true, true, true, true, false, false, false, false, false, false, false] rfl rfl (any_of HT_.out (by kernel_rfl)) (fun _ _ _ h => h) (Or.inl ⟨by rfl, ?_⟩) ?_ ?_
              rotate_left
              · intro w'
                go_simp
                with_reducible rfl
              rotate_left
              · simp only [Act.put, List.setIfInBounds_toArray, List.set_cons_zero, List.set_cons_succ, i64_w, i32_w]
                rfl
              refine pure_ (i := 5) (N := some 11) (v := ?_) (a' := ?_) #[true, true, true, true, true, true, false, false, false, false, false, false] rfl rfl (any_of HT_.out (by kernel_rfl)) (fun _ _ _ h => h) (Or.inl ⟨by rfl, ?_⟩) ?_ ?_
              rotate_left
              · intro w'
                go_simp
                with_reducible rfl
              rotate_left
              · simp only [Act.put, List.setIfInBounds_toArray, List.set_cons_zero, List.set_cons_succ, i64_w, i32_w]
                rfl
              refine pure_ (i := 6) (N := some 12) (v := ?_) (a' := ?_) #[true, true, true, true, true, true, true, false, false, false, false, false] rfl rfl (any_of HT_.out (by kernel_rfl)) (fun _ _ _ h => h) (Or.inl ⟨by rfl, ?_⟩) ?_ ?_
              rotate_left
              · intro w'
                go_simp
                with_reducible rfl
              rotate_left
              · simp only [Act.put, List.setIfInBounds_toArray, List.set_cons_zero, List.set_cons_succ, i64_w, i32_w]
                rfl
              refine pure_ (i := 8) (N := some 14) (v := ?_) (a' := ?_) #[true, true, true, true, true, true, true, false, true, false, false, false] rfl rfl (any_of HT_.out (by kernel_rfl)) (fun _ _ _ h => h) (Or.inl ⟨by rfl, ?_⟩) ?_ ?_
              rotate_left
              · intro w'
                go_simp
                with_reducible rfl
              rotate_left
              · simp only [Act.put, List.setIfInBounds_toArray, List.set_cons_zero, List.set_cons_succ, i64_w, i32_w]
                rfl
              refine take_ (i := 7) (N := some 13) (v := ?_) (a' := ?_) #[true, true, true, true, true, true, true, true, true, false, false, false] rfl rfl (take_ofW HT_.out HW_.out (by kernel_rfl)) (fun _ _ _ h => h) (Or.inl ⟨by rfl, ?_⟩) hHeld ?_ ?_
              rotate_left
              · rintro w' ⟨s0, s1, s2, s3, s4, s5, s6⟩
                go_simp
                with_reducible rfl
              rotate_left
              · simp only [Act.put, List.setIfInBounds_toArray, List.set_cons_zero, List.set_cons_succ, i64_w, i32_w]
                rfl
              refine one_ (i := 9) (N := some 15) #[true, true, true, true, true, true, true, true, true, true, false, false] rfl rfl (one_of HT_.out (by kernel_rfl)) (by decide) (fun K hK => ?_)
              refine goes_ Try.func21 (by kernel_rfl) rfl #[.agg #[.int .u8 0, .int .u8 0, .int .u8 0]] (by rfl) rfl rfl (by (try simp only [List.map_toArray, List.map_cons, List.map_nil]); first | done | rfl | (simp only [List.length_drop, List.length_take]; rfl)) ?_
              with_reducible refine (cell_Blank.calls 0 0 0 t233 t234 t235 t236 t237 t238 t239 _ A6.out).mono ?_
              rintro e w11 ⟨rfl, hb⟩
              refine ⟨_, rfl, ?_⟩
              have n0_ := Aside0.mk (below_step (by repeat (first | (with_reducible first | exact HB.out | apply below_alloc | apply pw_below_drewN | apply below_drew1) | exact HB.out)) hb)
              clear HB
              have HB := n0_
              clear n0_
              (try clear hb)
              (try clear hb2)
              (try clear hk)
              (try clear hi)
              refine hK.out _ _ ⟨((HB.out.cell (World.block_lt_of_cell? w _ hw232_0)).trans hw232_0), ((HB.out.cell (World.block_lt_of_cell? w _ hw232_1)).trans hw232_1), ((HB.out.cell (World.block_lt_of_cell? w _ hw232_2)).trans hw232_2), ((HB.out.cell (World.block_lt_of_cell? w _ hw232_3)).trans hw232_3), ((HB.out.cell (World.block_lt_of_cell? w _ hw232_4)).trans hw232_4), ((HB.out.cell (World.block_lt_of_cell? w _ hw232_5)).trans hw232_5), ((HB.out.cell (World.block_lt_of_cell? w _ hw232_6)).trans hw232_6)⟩ (fun hHeld => ?_)
              clear hK K
              refine norm_ (a' := ?_) ?_ ?_
              rotate_left
              · show Act.put _ (some 15) _ = _
                simp only [Act.put, List.setIfInBounds_toArray, List.set_cons_zero, List.set_cons_succ, i64_w, i32_w]
                rfl
              refine pure_ (i := 10) (N := some 16) (v := ?_) (a' := ?_) #[true, true, true, true, true, true, true, true, true, true, true, false] rfl rfl (any_of HT_.out (by kernel_rfl)) (fun _ _ _ h => h) (Or.inl ⟨by rfl, ?_⟩) ?_ ?_
              rotate_left
              · intro w'
                go_simp
                with_reducible rfl
              rotate_left
              · simp only [Act.put, List.setIfInBounds_toArray, List.set_cons_zero, List.set_cons_succ, i64_w, i32_w]
                rfl
              refine pure_ (i := 11) (N := some 17) (v := ?_) (a' := ?_) #[true, true, true, true, true, true, true, true, true, true, true, true] rfl rfl (any_of HT_.out (by kernel_rfl)) (fun _ _ _ h => h) (Or.inl ⟨by rfl, ?_⟩) ?_ ?_
              rotate_left
              · intro w'
                go_simp
                with_reducible rfl
              rotate_left
              · simp only [Act.put, List.setIfInBounds_toArray, List.set_cons_zero, List.set_cons_succ, i64_w, i32_w]
                rfl
              refine done_ (done_of HT_.out (by kernel_rfl)) ?_
              try go_wp2
              go_ret
              exact ⟨by first | rfl | (simp <;> rfl) | (simp only [← hji3]; first | rfl | (simp <;> rfl)) | (simp [*] <;> rfl), by repeat (first | (with_reducible first | exact HB.out | apply below_alloc | apply pw_below_drewN | apply below_drew1) | exact HB.out)⟩
          · rw [if_neg c5] at H
            exact absurd H (by simp)
        · rw [if_neg c4] at H
          exact absurd H (by simp)
      · rw [if_neg c2] at H
        have c2b0 : decide (0 < x3_1) = false := decide_eq_false c2
        clear c2
        obtain rfl := Option.some.inj H
        try go_wp2
        have n0_ := Aside0.mk (below_drew1 HB.out)
        clear HB
        have HB := n0_
        clear n0_
        refine start_ (n := 12) (S := fun w' => True) (ds := []) #[false, false, false, false, false, false, false, false, false, false, false, false] (by kernel_rfl) rfl rfl trivial (fun hHeld => ?_); refine with_tabW line_Used.tab2 line_Used.bits2 (fun HT_ HW_ => ?_)
        generalize wr.drew = w12 at HB hHeld ⊢
        refine pure_ (i := 0) (N := some 6) (v := ?_) (a' := ?_) #[true, false, false, false, false, false, false, false, false, false, false, false] rfl rfl (any_of HT_.out (by kernel_rfl)) (fun _ _ _ h => h) (Or.inl ⟨by rfl, ?_⟩) ?_ ?_
        rotate_left
        · intro w'
          go_simp
          with_reducible rfl
        rotate_left
        · simp only [Act.put, List.setIfInBounds_toArray, List.set_cons_zero, List.set_cons_succ, i64_w, i32_w]
          rfl
        refine pure_ (i := 1) (N := some 7) (v := ?_) (a' := ?_) #[true, true, false, false, false, false, false, false, false, false, false, false] rfl rfl (any_of HT_.out (by kernel_rfl)) (fun _ _ _ h => h) (Or.inl ⟨by rfl, ?_⟩) ?_ ?_
        rotate_left
        · intro w'
          go_simp
          with_reducible rfl
        rotate_left
        · simp only [Act.put, List.setIfInBounds_toArray, List.set_cons_zero, List.set_cons_succ, i64_w, i32_w]
          rfl
        refine pure_ (i := 2) (N := some 8) (v := ?_) (a' := ?_) #[true, true, true, false, false, false, false, false, false, false, false, false] rfl rfl (any_of HT_.out (by kernel_rfl)) (fun _ _ _ h => h) (Or.inl ⟨by rfl, ?_⟩) ?_ ?_
        rotate_left
        · intro w'
          go_simp
          with_reducible rfl
        rotate_left
        · simp only [Act.put, List.setIfInBounds_toArray, List.set_cons_zero, List.set_cons_succ, i64_w, i32_w]
          rfl
        refine pure_ (i := 3) (N := some 9) (v := undef) (a' := ?_) #[true, true, true, true, false, false, false, false, false, false, false, false] rfl rfl (any_of HT_.out (by kernel_rfl)) (fun _ _ _ h => h) (Or.inr ⟨by rfl, rfl⟩) ?_ ?_
        rotate_left
        · simp only [Act.put, List.setIfInBounds_toArray, List.set_cons_zero, List.set_cons_succ, i64_w, i32_w]
          rfl
        refine pure_ (i := 4) (N := some 10) (v := undef) (a' := ?_) #[true, true, true, true, true, false, false, false, false, false, false, false] rfl rfl (any_of HT_.out (by kernel_rfl)) (fun _ _ _ h => h) (Or.inr ⟨by rfl, rfl⟩) ?_ ?_
        rotate_left
        · simp only [Act.put, List.setIfInBounds_toArray, List.set_cons_zero, List.set_cons_succ, i64_w, i32_w]
          rfl
        refine pure_ (i := 5) (N := some 11) (v := undef) (a' := ?_) #[true, true, true, true, true, true, false, false, false, false, false, false] rfl rfl (any_of HT_.out (by kernel_rfl)) (fun _ _ _ h => h) (Or.inr ⟨by rfl, rfl⟩) ?_ ?_
        rotate_left
        · simp only [Act.put, List.setIfInBounds_toArray, List.set_cons_zero, List.set_cons_succ, i64_w, i32_w]
          rfl
        refine pure_ (i := 6) (N := some 12) (v := undef) (a' := ?_) #[true, true, true, true, true, true, true, false, false, false, false, false] rfl rfl (any_of HT_.out (by kernel_rfl)) (fun _ _ _ h => h) (Or.inr ⟨by rfl, rfl⟩) ?_ ?_
        rotate_left
        · simp only [Act.put, List.setIfInBounds_toArray, List.set_cons_zero, List.set_cons_succ, i64_w, i32_w]
          rfl
        refine pure_ (i := 7) (N := some 13) (v := undef) (a' := ?_) #[true, true, true, true, true, true, true, true, false, false, false, false] rfl rfl (any_of HT_.out (by kernel_rfl)) (fun _ _ _ h => h) (Or.inr ⟨by rfl, rfl⟩) ?_ ?_
        rotate_left
        · simp only [Act.put, List.setIfInBounds_toArray, List.set_cons_zero, List.set_cons_succ, i64_w, i32_w]
          rfl
        refine pure_ (i := 8) (N := some 14) (v := undef) (a' := ?_) #[true, true, true, true, true, true, true, true, true, false, false, false] rfl rfl (any_of HT_.out (by kernel_rfl)) (fun _ _ _ h => h) (Or.inr ⟨by rfl, rfl⟩) ?_ ?_
        rotate_left
        · simp only [Act.put, List.setIfInBounds_toArray, List.set_cons_zero, List.set_cons_succ, i64_w, i32_w]
          rfl
        refine pure_ (i := 9) (N := some 15) (v := undef) (a' := ?_) #[true, true, true, true, true, true, true, true, true, true, false, false] rfl rfl (any_of HT_.out (by kernel_rfl)) (fun _ _ _ h => h) (Or.inr ⟨by rfl, rfl⟩) ?_ ?_
        rotate_left
        · simp only [Act.put, List.setIfInBounds_toArray, List.set_cons_zero, List.set_cons_succ, i64_w, i32_w]
          rfl
        refine pure_ (i := 10) (N := some 16) (v := undef) (a' := ?_) #[true, true, true, true, true, true, true, true, true, true, true, false] rfl rfl (any_of HT_.out (by kernel_rfl)) (fun _ _ _ h => h) (Or.inr ⟨by rfl, rfl⟩) ?_ ?_
        rotate_left
        · simp only [Act.put, List.setIfInBounds_toArray, List.set_cons_zero, List.set_cons_succ, i64_w, i32_w]
          rfl
        refine pure_ (i := 11) (N := some 17) (v := ?_) (a' := ?_) #[true, true, true, true, true, true, true, true, true, true, true, true] rfl rfl (any_of HT_.out (by kernel_rfl)) (fun _ _ _ h => h) (Or.inl ⟨by rfl, ?_⟩) ?_ ?_
        rotate_left
        · intro w'
          go_simp
          with_reducible rfl
        rotate_left
        · simp only [Act.put, List.setIfInBounds_toArray, List.set_cons_zero, List.set_cons_succ, i64_w, i32_w]
          rfl
        refine done_ (done_of HT_.out (by kernel_rfl)) ?_
        try go_wp2
        go_ret
        exact ⟨by first | rfl | (simp <;> rfl) | (simp [*] <;> rfl), by repeat (first | (with_reducible first | exact HB.out | apply below_alloc | apply pw_below_drewN | apply below_drew1) | exact HB.out)⟩

/-! ### prolepsisref05_Blank: function 22 -/
def prolepsisref05_Blank.f (a0_0 : Int) (a0_1 : Int) (a0_2 : Int) : Option (Int × Int × Int × Int × Int × Int × Int) := some (32, 0, 0, 1, a0_0, a0_1, a0_2)
set_option maxHeartbeats 8000000 in
set_option maxRecDepth 100000 in
theorem prolepsisref05_Blank.calls (a0_0 : Int) (a0_1 : Int) (a0_2 : Int) (r1 : Int) (r2 : Int) (r3 : Int) (r4 : Int) (r5 : Int) (r6 : Int) (r7 : Int) (w : World) (h : prolepsisref05_Blank.f a0_0 a0_1 a0_2 = some (r1, r2, r3, r4, r5, r6, r7)) :
    Calls Try.prog 22 #[.agg #[.int .u8 a0_0, .int .u8 a0_1, .int .u8 a0_2]] w fun e w' => e = .returned (.agg #[.int .i64 r1, .int .i64 r2, .int .i64 r3, .int .u8 r4, .int .u8 r5, .int .u8 r6, .int .u8 r7]) ∧ Below w.heap.size w w' := by
  have hu30 := Try.underlying30
  have hu32 := Try.underlying32
  have HB := Aside0.mk (Below.refl w.heap.size w)
  have H : (some (32, 0, 0, 1, a0_0, a0_1, a0_2)) = some (r1, r2, r3, r4, r5, r6, r7) := h
  clear h
  simp only [Option.some.injEq, Prod.mk.injEq] at H
  obtain ⟨rfl, rfl, rfl, rfl, rfl, rfl, rfl⟩ := H
  go_enter Try.func22, Try.ntmps22
  go_wp2_with (first | ((with_reducible refine gate_dst (N := 1) rfl ?_); refine box_event ?hg (N := 1) ?hd (cs := #[.int .u8 a0_0, .int .u8 a0_1, .int .u8 a0_2]) (t := 30) ?hr ?_; (case hd => rfl); (case hg => rfl); (case hr => first | (go_simp; done) | (go_simp; rfl)); intro gb240 hg w2 hbox hb; have n0_ := Aside0.mk (below_step (by repeat (first | (with_reducible first | exact HB.out | apply below_alloc | apply pw_below_drewN | apply below_drew1) | exact HB.out)) hb); have n1_ := Aside0.mk (hbox); have n2_ := Aside0.mk ((by rw [hg]; exact (below_size (by repeat (first | (with_reducible first | exact HB.out | apply below_alloc | apply pw_below_drewN | apply below_drew1) | exact HB.out))) : w.heap.size ≤ gb240)); have n3_ := Aside0.mk ((by rw [hg]; exact (below_size (by repeat (first | (with_reducible first | exact HB.out | apply below_alloc | apply pw_below_drewN | apply below_drew1) | exact HB.out))) : w.heap.size ≤ gb240)); clear HB; have HB := n0_; have BK240 := n1_; have GW240 := n2_; have GE240 := n3_; clear n0_ n1_ n2_ n3_; clear hb hbox hg) | ((with_reducible refine gate_dst (N := 2) rfl ?_); refine box_event ?hg (N := 2) ?hd (cs := #[.int .i64 0, .int .i64 0, .int .i64 0, .int .u8 0, .int .u8 0, .int .u8 0, .int .u8 0]) (t := 32) ?hr ?_; (case hd => rfl); (case hg => rfl); (case hr => first | (go_simp; done) | (go_simp; rfl)); intro gb241 hg w3 hbox hb; have n0_ := Aside0.mk (blk_below (g := gb240) (o := .cells #[.int .u8 a0_0, .int .u8 a0_1, .int .u8 a0_2] 30 (0, 0)) (by (with_reducible repeat (first | refine blk_drewN ?_ _ | refine blk_drew ?_ | refine blk_alloc ?_ _)); exact BK240.out) hb); have n1_ := Aside0.mk (below_step (by repeat (first | (with_reducible first | exact HB.out | apply below_alloc | apply pw_below_drewN | apply below_drew1 | refine below_set ?_ GE240.out) | exact HB.out)) hb); have n2_ := Aside0.mk (hbox); have n3_ := Aside0.mk ((by rw [hg]; exact (below_size (by repeat (first | (with_reducible first | exact HB.out | apply below_alloc | apply pw_below_drewN | apply below_drew1 | refine below_set ?_ GE240.out) | exact HB.out))) : w.heap.size ≤ gb241)); have n4_ := Aside0.mk ((by rw [hg]; exact (below_size (by repeat (first | (with_reducible first | exact HB.out | apply below_alloc | apply pw_below_drewN | apply below_drew1 | refine below_set ?_ GE240.out) | exact HB.out))) : w.heap.size ≤ gb241)); have n5_ := Aside0.mk ((by rw [hg]; exact Nat.ne_of_lt (blk_lt (g := gb240) (o := .cells #[.int .u8 a0_0, .int .u8 a0_1, .int .u8 a0_2] 30 (0, 0)) (by (with_reducible repeat (first | refine blk_drewN ?_ _ | refine blk_drew ?_ | refine blk_alloc ?_ _)); exact BK240.out)) : gb240 ≠ gb241)); have n6_ := Aside0.mk ((by rw [hg]; exact Nat.ne_of_gt (blk_lt (g := gb240) (o := .cells #[.int .u8 a0_0, .int .u8 a0_1, .int .u8 a0_2] 30 (0, 0)) (by (with_reducible repeat (first | refine blk_drewN ?_ _ | refine blk_drew ?_ | refine blk_alloc ?_ _)); exact BK240.out)) : gb241 ≠ gb240)); clear BK240; clear HB; have BK240 := n0_; have HB := n1_; have BK241 := n2_; have GW241 := n3_; have GE241 := n4_; have NB240_241 := n5_; have NB241_240 := n6_; clear n0_ n1_ n2_ n3_ n4_ n5_ n6_; clear hb hbox hg; have hnb4 := NB240_241.out; have hnc4 := NB241_240.out; have hcz5_0 : w3.cell? ⟨gb240, 0, none⟩ = some (.int .u8 a0_0) := (blk_cell BK240.out 0).trans rfl; have hcz5_1 : w3.cell? ⟨gb240, 1, none⟩ = some (.int .u8 a0_1) := (blk_cell BK240.out 1).trans rfl; have hcz5_2 : w3.cell? ⟨gb240, 2, none⟩ = some (.int .u8 a0_2) := (blk_cell BK240.out 2).trans rfl; have hfz5_0 := blk_frozen BK240.out 0; have hfz5_1 := blk_frozen BK240.out 1; have hfz5_2 := blk_frozen BK240.out 2; have hcz6_0 : w3.cell? ⟨gb241, 0, none⟩ = some (.int .i64 0) := (blk_cell BK241.out 0).trans rfl; have hcz6_1 : w3.cell? ⟨gb241, 1, none⟩ = some (.int .i64 0) := (blk_cell BK241.out 1).trans rfl; have hcz6_2 : w3.cell? ⟨gb241, 2, none⟩ = some (.int .i64 0) := (blk_cell BK241.out 2).trans rfl; have hcz6_3 : w3.cell? ⟨gb241, 3, none⟩ = some (.int .u8 0) := (blk_cell BK241.out 3).trans rfl; have hcz6_4 : w3.cell? ⟨gb241, 4, none⟩ = some (.int .u8 0) := (blk_cell BK241.out 4).trans rfl; have hcz6_5 : w3.cell? ⟨gb241, 5, none⟩ = some (.int .u8 0) := (blk_cell BK241.out 5).trans rfl; have hcz6_6 : w3.cell? ⟨gb241, 6, none⟩ = some (.int .u8 0) := (blk_cell BK241.out 6).trans rfl; have hfz6_0 := blk_frozen BK241.out 0; have hfz6_1 := blk_frozen BK241.out 1; have hfz6_2 := blk_frozen BK241.out 2; have hfz6_3 := blk_frozen BK241.out 3; have hfz6_4 := blk_frozen BK241.out 4; have hfz6_5 := blk_frozen BK241.out 5; have hfz6_6 := blk_frozen BK241.out 6))
  refine bodyPost_ret (results_cell_row rfl _ _ gb241 32 #[.int .i64 32, .int .i64 0, .int .i64 0, .int .u8 1, .int .u8 a0_0, .int .u8 a0_1, .int .u8 a0_2] (0, 0) _ rfl (by (with_reducible repeat (first | refine blk_drewN ?_ _ | refine blk_drew ?_ | refine blk_alloc ?_ _)); refine blk_put (cs := #[.int .i64 32, .int .i64 0, .int .i64 0, .int .u8 1, .int .u8 a0_0, .int .u8 a0_1, .int .u8 0]) ?_ 6 _ rfl; (with_reducible repeat (first | refine blk_drewN ?_ _ | refine blk_drew ?_ | refine blk_alloc ?_ _)); refine blk_put (cs := #[.int .i64 32, .int .i64 0, .int .i64 0, .int .u8 1, .int .u8 a0_0, .int .u8 0, .int .u8 0]) ?_ 5 _ rfl; (with_reducible repeat (first | refine blk_drewN ?_ _ | refine blk_drew ?_ | refine blk_alloc ?_ _)); refine blk_put (cs := #[.int .i64 32, .int .i64 0, .int .i64 0, .int .u8 1, .int .u8 0, .int .u8 0, .int .u8 0]) ?_ 4 _ rfl; (with_reducible repeat (first | refine blk_drewN ?_ _ | refine blk_drew ?_ | refine blk_alloc ?_ _)); refine blk_put (cs := #[.int .i64 32, .int .i64 0, .int .i64 0, .int .u8 0, .int .u8 0, .int .u8 0, .int .u8 0]) ?_ 3 _ rfl; (with_reducible repeat (first | refine blk_drewN ?_ _ | refine blk_drew ?_ | refine blk_alloc ?_ _)); refine blk_put (cs := #[.int .i64 32, .int .i64 0, .int .i64 0, .int .u8 0, .int .u8 0, .int .u8 0, .int .u8 0]) ?_ 2 _ rfl; (with_reducible repeat (first | refine blk_drewN ?_ _ | refine blk_drew ?_ | refine blk_alloc ?_ _)); refine blk_put (cs := #[.int .i64 32, .int .i64 0, .int .i64 0, .int .u8 0, .int .u8 0, .int .u8 0, .int .u8 0]) ?_ 1 _ rfl; (with_reducible repeat (first | refine blk_drewN ?_ _ | refine blk_drew ?_ | refine blk_alloc ?_ _)); refine blk_put (cs := #[.int .i64 0, .int .i64 0, .int .i64 0, .int .u8 0, .int .u8 0, .int .u8 0, .int .u8 0]) ?_ 0 _ rfl; (with_reducible repeat (first | refine blk_drewN ?_ _ | refine blk_drew ?_ | refine blk_alloc ?_ _)); exact BK241.out) Try.underlying32 rfl (by kernel_rfl)) rfl ?_
  exact ⟨by first | rfl | (simp <;> rfl) | (simp [*] <;> rfl), by repeat (first | (with_reducible first | exact HB.out | apply below_alloc | apply pw_below_drewN | apply below_drew1 | refine below_set ?_ GE240.out | refine below_set ?_ GE241.out) | exact HB.out)⟩

/-! ### prolepsisref06_Used: function 56 -/
def prolepsisref06_Used.l0 : Nat → List (S32) → Int → Int → Option (Int)
  | 0, _, _, _ => none
  | k + 1, x0, x3, x4 => if x4 < (x0.length : Int) then (if 0 ≤ x4 then ((prolepsisref05_Blank.f 0 0 0).bind fun bt243 => (if (!(((rd_T32 x0 x4).f0) == bt243.1) || ((!(((rd_T32 x0 x4).f1.f0) == bt243.2.1) || (!(((rd_T32 x0 x4).f1.f1) == bt243.2.2.1))) || (!(((rd_T32 x0 x4).f2) == bt243.2.2.2.1) || ((!(((rd_T32 x0 x4).f3.f0) == bt243.2.2.2.2.1) || (!(((rd_T32 x0 x4).f3.f1) == bt243.2.2.2.2.2.1) || (!(((rd_T32 x0 x4).f3.f2) == bt243.2.2.2.2.2.2)))))))) = true then (prolepsisref06_Used.l0 k x0 (wrap64 (x4 + 1)) (wrap64 (x4 + 1))) else (prolepsisref06_Used.l0 k x0 x3 (wrap64 (x4 + 1))))) else (none)) else (some x3)
def prolepsisref06_Used.f (k : Nat) (l0 : List (S32)) : Option (Int) := prolepsisref06_Used.l0 k l0 0 0
set_option maxHeartbeats 8000000 in
set_option maxRecDepth 100000 in
theorem prolepsisref06_Used.calls (k : Nat) (A0 : Option Addr) (c0 : Nat) (l0 : List (S32)) (r : Int) (w : World) (hr0 : Kd.C k32 w A0 l0.length l0) (hc0 : l0.length ≤ c0) (h : prolepsisref06_Used.f k l0 = some r) :
    Calls Try.prog 56 #[.slice A0 l0.length c0] w fun e w' => e = .returned (.int .i64 r) ∧ Below w.heap.size w w' := by
  have hu32 := Try.underlying32
  have hu30 := Try.underlying30
  have HR0 := Aside0.mk hr0
  have HC0 := Aside0.mk hc0
  clear hr0 hc0
  have HB := Aside0.mk (Below.refl w.heap.size w)
  have H : (prolepsisref06_Used.l0 k l0 0 0) = some r := h
  clear h
  have H' := Aside0.mk H
  clear H
  go_enter Try.func56, Try.ntmps56
  go_wp2
  go_loopg [3, 4] k (fun kq v3 v4 w' => ∃ (x3_1 : Int) (x4_1 : Int), v3 = .int .i64 x3_1 ∧ v4 = .int .i64 x4_1 ∧ Aside0 (prolepsisref06_Used.l0 kq l0 x3_1 x4_1 = some r) ∧ Aside0 (kq ≤ k) ∧ Aside0 (Below w.heap.size w w'))
  case atStart => exact ⟨(0), (0), (by first | rfl | (simp; done) | (simp [*]; done)), (by first | rfl | (simp; done) | (simp [*]; done)), H', ⟨Nat.le_refl _⟩, ⟨by repeat (first | (with_reducible first | exact HB.out | apply below_alloc | apply pw_below_drewN | apply below_drew1) | exact HB.out)⟩⟩
  case round =>
    clear H'
    obtain ⟨x3_1, x4_1, rfl, rfl, HA, HK1, HB⟩ := hrel
    cases gk with
    | zero => exact absurd HA.out (by simp [prolepsisref06_Used.l0])
    | succ k1 =>
      have H := HA.out
      clear HA
      simp only [prolepsisref06_Used.l0] at H
      by_cases c2 : x4_1 < (l0.length : Int)
      · rw [if_pos c2] at H
        have c2b0 : decide (x4_1 < (l0.length : Int)) = true := decide_eq_true c2
        clear c2
        by_cases c3 : 0 ≤ x4_1
        · rw [if_pos c3] at H
          have c3b0 : decide (0 ≤ x4_1) = true := decide_eq_true c3
          clear c3
          replace H := Option.bind_eq_some_iff.mp H
          obtain ⟨⟨t243, t244, t245, t246, t247, t248, t249⟩, A40, H⟩ := H
          replace H : (if (!(((rd_T32 l0 x4_1).f0) == t243) || ((!(((rd_T32 l0 x4_1).f1.f0) == t244) || (!(((rd_T32 l0 x4_1).f1.f1) == t245))) || (!(((rd_T32 l0 x4_1).f2) == t246) || ((!(((rd_T32 l0 x4_1).f3.f0) == t247) || (!(((rd_T32 l0 x4_1).f3.f1) == t248) || (!(((rd_T32 l0 x4_1).f3.f2) == t249)))))))) = true then (prolepsisref06_Used.l0 k1 l0 (wrap64 (x4_1 + 1)) (wrap64 (x4_1 + 1))) else (prolepsisref06_Used.l0 k1 l0 x3_1 (wrap64 (x4_1 + 1)))) = some r := H
          have A4 := Aside0.mk A40
          clear A40
          by_cases c5 : (!(((rd_T32 l0 x4_1).f0) == t243) || ((!(((rd_T32 l0 x4_1).f1.f0) == t244) || (!(((rd_T32 l0 x4_1).f1.f1) == t245))) || (!(((rd_T32 l0 x4_1).f2) == t246) || ((!(((rd_T32 l0 x4_1).f3.f0) == t247) || (!(((rd_T32 l0 x4_1).f3.f1) == t248) || (!(((rd_T32 l0 x4_1).f3.f2) == t249)))))))) = true
          · rw [if_pos c5] at H
            have c5b0 : (!(((rd_T32 l0 x4_1).f0) == t243) || ((!(((rd_T32 l0 x4_1).f1.f0) == t244) || (!(((rd_T32 l0 x4_1).f1.f1) == t245))) || (!(((rd_T32 l0 x4_1).f2) == t246) || ((!(((rd_T32 l0 x4_1).f3.f0) == t247) || (!(((rd_T32 l0 x4_1).f3.f1) == t248) || (!(((rd_T32 l0 x4_1).f3.f2) == t249)))))))) = true := c5
            clear c5
            have H' := Aside0.mk H
            clear H
            try go_wp2
            have n0_ := Aside0.mk (below_drew1 HB.out)
            clear HB
            have HB := n0_
            clear n0_
            have p242 : 0 ≤ (x4_1 : Int) := of_decide_eq_true (by first | (with_reducible assumption) | assumption)
            have q242 : x4_1 < (l0.length : Int) := of_decide_eq_true (by first | (with_reducible assumption) | assumption)
            obtain ⟨ad242, e242, hx242_0, hx242_1, hx242_2, hx242_3, hx242_4, hx242_5, hx242_6⟩ := at_T32 HR0.out x4_1 p242 q242
            have hw242_6 := hx242_6
            have hw242_5 := hx242_5
            have hw242_4 := hx242_4
            have hw242_3 := hx242_3
            have hw242_2 := hx242_2
            have hw242_1 := hx242_1
            have hw242_0 := hx242_0
            cases e242
            replace hx242_0 := (HB.out.cell (World.block_lt_of_cell? w _ hx242_0)).trans hx242_0
            replace hx242_1 := (HB.out.cell (World.block_lt_of_cell? w _ hx242_1)).trans hx242_1
            replace hx242_2 := (HB.out.cell (World.block_lt_of_cell? w _ hx242_2)).trans hx242_2
            replace hx242_3 := (HB.out.cell (World.block_lt_of_cell? w _ hx242_3)).trans hx242_3
            replace hx242_4 := (HB.out.cell (World.block_lt_of_cell? w _ hx242_4)).trans hx242_4
            replace hx242_5 := (HB.out.cell (World.block_lt_of_cell? w _ hx242_5)).trans hx242_5
            replace hx242_6 := (HB.out.cell (World.block_lt_of_cell? w _ hx242_6)).trans hx242_6
            replace p242 := eq_true p242
            replace q242 := eq_true q242
            refine start_ (n := 7) (S := fun w' => w'.cell? (ad242.add ((x4_1).toNat * 7)) = some (.int .i64 ((rd_T32 l0 x4_1).f0)) ∧ w'.cell? ⟨(ad242.add ((x4_1).toNat * 7)).block, (ad242.add ((x4_1).toNat * 7)).off + 1, none⟩ = some (.int .i64 ((rd_T32 l0 x4_1).f1.f0)) ∧ w'.cell? ⟨(ad242.add ((x4_1).toNat * 7)).block, (ad242.add ((x4_1).toNat * 7)).off + 2, none⟩ = some (.int .i64 ((rd_T32 l0 x4_1).f1.f1)) ∧ w'.cell? ⟨(ad242.add ((x4_1).toNat * 7)).block, (ad242.add ((x4_1).toNat * 7)).off + 3, none⟩ = some (.int .u8 ((rd_T32 l0 x4_1).f2)) ∧ w'.cell? ⟨(ad242.add ((x4_1).toNat * 7)).block, (ad242.add ((x4_1).toNat * 7)).off + 4, none⟩ = some (.int .u8 ((rd_T32 l0 x4_1).f3.f0)) ∧ w'.cell? ⟨(ad242.add ((x4_1).toNat * 7)).block, (ad242.add ((x4_1).toNat * 7)).off + 5, none⟩ = some (.int .u8 ((rd_T32 l0 x4_1).f3.f1)) ∧ w'.cell? ⟨(ad242.add ((x4_1).toNat * 7)).block, (ad242.add ((x4_1).toNat * 7)).off + 6, none⟩ = some (.int .u8 ((rd_T32 l0 x4_1).f3.f2))) (ds := []) #[false, false, false, false, false, false, false] (by kernel_rfl) rfl rfl ⟨((HB.out.cell (World.block_lt_of_cell? w _ hw242_0)).trans hw242_0), ((HB.out.cell (World.block_lt_of_cell? w _ hw242_1)).trans hw242_1), ((HB.out.cell (World.block_lt_of_cell? w _ hw242_2)).trans hw242_2), ((HB.out.cell (World.block_lt_of_cell? w _ hw242_3)).trans hw242_3), ((HB.out.cell (World.block_lt_of_cell? w _ hw242_4)).trans hw242_4), ((HB.out.cell (World.block_lt_of_cell? w _ hw242_5)).trans hw242_5), ((HB.out.cell (World.block_lt_of_cell? w _ hw242_6)).trans hw242_6)⟩ (fun hHeld => ?_)
            generalize wr.drew = w6 at HB hx242_0 hx242_1 hx242_2 hx242_3 hx242_4 hx242_5 hx242_6 hHeld ⊢
            refine pure_ (i := 0) (N := some 11) (v := ?_) (a' := ?_) #[true, false, false, false, false, false, false] rfl rfl (by kernel_rfl) (fun _ _ _ h => h) (Or.inl ⟨by rfl, ?_⟩) ?_ ?_
            rotate_left
            · intro w'
              go_simp
              with_reducible rfl
            rotate_left
            · simp only [Act.put, List.setIfInBounds_toArray, List.set_cons_zero, List.set_cons_succ, i64_w, i32_w]
              rfl
            refine pure_ (i := 1) (N := some 12) (v := ?_) (a' := ?_) #[true, true, false, false, false, false, false] rfl rfl (by kernel_rfl) (fun _ _ _ h => h) (Or.inl ⟨by rfl, ?_⟩) ?_ ?_
            rotate_left
            · intro w'
              go_simp
              with_reducible rfl
            rotate_left
            · simp only [Act.put, List.setIfInBounds_toArray, List.set_cons_zero, List.set_cons_succ, i64_w, i32_w]
              rfl
            refine pure_ (i := 2) (N := some 13) (v := ?_) (a' := ?_) #[true, true, true, false, false, false, false] rfl rfl (by kernel_rfl) (fun _ _ _ h => h) (Or.inl ⟨by rfl, ?_⟩) ?_ ?_
            rotate_left
            · intro w'
              go_simp
              with_reducible rfl
            rotate_left
            · simp only [Act.put, List.setIfInBounds_toArray, List.set_cons_zero, List.set_cons_succ, i64_w, i32_w]
              rfl
            refine pure_ (i := 4) (N := some 15) (v := ?_) (a' := ?_) #[true, true, true, false, true, false, false] rfl rfl (by kernel_rfl) (fun _ _ _ h => h) (Or.inl ⟨by rfl, ?_⟩) ?_ ?_
            rotate_left
            · intro w'
              go_simp
              with_reducible rfl
            rotate_left
            · simp only [Act.put, List.setIfInBounds_toArray, List.set_cons_zero, List.set_cons_succ, i64_w, i32_w]
              rfl
            refine take_ (i := 3) (N := some 14) (v := ?_) (a' := ?_) #[true, true, true, true, true, false, false] rfl rfl (by kernel_rfl) (fun _ _ _ h => h) (Or.inl ⟨by rfl, ?_⟩) hHeld ?_ ?_
            rotate_left
            · rintro w' ⟨s0, s1, s2, s3, s4, s5, s6⟩
              go_simp
              with_reducible rfl
            rotate_left
            · simp only [Act.put, List.setIfInBounds_toArray, List.set_cons_zero, List.set_cons_succ, i64_w, i32_w]
              rfl
            refine one_ (i := 5) (N := some 16) #[true, true, true, true, true, true, false] rfl rfl (by kernel_rfl) (by decide) (fun K hK => ?_)
            refine goes_ Try.func22 (by kernel_rfl) rfl #[.agg #[.int .u8 0, .int .u8 0, .int .u8 0]] (by rfl) rfl rfl (by (try simp only [List.map_toArray, List.map_cons, List.map_nil]); first | done | rfl | (simp only [List.length_drop, List.length_take]; rfl)) ?_
            with_reducible refine (prolepsisref05_Blank.calls 0 0 0 t243 t244 t245 t246 t247 t248 t249 _ A4.out).mono ?_
            rintro e w7 ⟨rfl, hb⟩
            refine ⟨_, rfl, ?_⟩
            have n0_ := Aside0.mk (below_step (by repeat (first | (with_reducible first | exact HB.out | apply below_alloc | apply pw_below_drewN | apply below_drew1) | exact HB.out)) hb)
            clear HB
            have HB := n0_
            clear n0_
            (try clear hb)
            (try clear hb2)
            (try clear hk)
            (try clear hi)
            refine hK.out _ _ ⟨((HB.out.cell (World.block_lt_of_cell? w _ hw242_0)).trans hw242_0), ((HB.out.cell (World.block_lt_of_cell? w _ hw242_1)).trans hw242_1), ((HB.out.cell (World.block_lt_of_cell? w _ hw242_2)).trans hw242_2), ((HB.out.cell (World.block_lt_of_cell? w _ hw242_3)).trans hw242_3), ((HB.out.cell (World.block_lt_of_cell? w _ hw242_4)).trans hw242_4), ((HB.out.cell (World.block_lt_of_cell? w _ hw242_5)).trans hw242_5), ((HB.out.cell (World.block_lt_of_cell? w _ hw242_6)).trans hw242_6)⟩ (fun hHeld => ?_)
            clear hK K
            refine norm_ (a' := ?_) ?_ ?_
            rotate_left
            · show Act.put _ (some 16) _ = _
              simp only [Act.put, List.setIfInBounds_toArray, List.set_cons_zero, List.set_cons_succ, i64_w, i32_w]
              rfl
            refine pure_ (i := 6) (N := some 17) (v := ?_) (a' := ?_) #[true, true, true, true, true, true, true] rfl rfl (by kernel_rfl) (fun _ _ _ h => h) (Or.inl ⟨by rfl, ?_⟩) ?_ ?_
            rotate_left
            · intro w'
              go_simp
              with_reducible rfl
            rotate_left
            · simp only [Act.put, List.setIfInBounds_toArray, List.set_cons_zero, List.set_cons_succ, i64_w, i32_w]
              rfl
            refine done_ (by kernel_rfl) ?_
            try go_wp2
            go_roundg k1
            case measure => have := HK1.out; omega
            case rel => exact ⟨(wrap64 (x4_1 + 1)), (wrap64 (x4_1 + 1)), (by first | rfl | (simp; done) | (simp [*]; done)), (by first | rfl | (simp; done) | (simp [*]; done)), H', ⟨by have := HK1.out; omega⟩, ⟨by repeat (first | (with_reducible first | exact HB.out | apply below_alloc | apply pw_below_drewN | apply below_drew1) | exact HB.out)⟩⟩
          · rw [if_neg c5] at H
            have c5b0 : (!(((rd_T32 l0 x4_1).f0) == t243) || ((!(((rd_T32 l0 x4_1).f1.f0) == t244) || (!(((rd_T32 l0 x4_1).f1.f1) == t245))) || (!(((rd_T32 l0 x4_1).f2) == t246) || ((!(((rd_T32 l0 x4_1).f3.f0) == t247) || (!(((rd_T32 l0 x4_1).f3.f1) == t248) || (!(((rd_T32 l0 x4_1).f3.f2) == t249)))))))) = false := by simpa using c5
            clear c5
            have H' := Aside0.mk H
            clear H
            try go_wp2
            have n0_ := Aside0.mk (below_drew1 HB.out)
            clear HB
            have HB := n0_
            clear n0_
            have p242 : 0 ≤ (x4_1 : Int) := of_decide_eq_true (by first | (with_reducible assumption) | assumption)
            have q242 : x4_1 < (l0.length : Int) := of_decide_eq_true (by first | (with_reducible assumption) | assumption)
            obtain ⟨ad242, e242, hx242_0, hx242_1, hx242_2, hx242_3, hx242_4, hx242_5, hx242_6⟩ := at_T32 HR0.out x4_1 p242 q242
            have hw242_6 := hx242_6
            have hw242_5 := hx242_5
            have hw242_4 := hx242_4
            have hw242_3 := hx242_3
            have hw242_2 := hx242_2
            have hw242_1 := hx242_1
            have hw242_0 := hx242_0
            cases e242
            replace hx242_0 := (HB.out.cell (World.block_lt_of_cell? w _ hx242_0)).trans hx242_0
            replace hx242_1 := (HB.out.cell (World.block_lt_of_cell? w _ hx242_1)).trans hx242_1
            replace hx242_2 := (HB.out.cell (World.block_lt_of_cell? w _ hx242_2)).trans hx242_2
            replace hx242_3 := (HB.out.cell (World.block_lt_of_cell? w _ hx242_3)).trans hx242_3
            replace hx242_4 := (HB.out.cell (World.block_lt_of_cell? w _ hx242_4)).trans hx242_4
            replace hx242_5 := (HB.out.cell (World.block_lt_of_cell? w _ hx242_5)).trans hx242_5
            replace hx242_6 := (HB.out.cell (World.block_lt_of_cell? w _ hx242_6)).trans hx242_6
            replace p242 := eq_true p242
            replace q242 := eq_true q242
            refine start_ (n := 7) (S := fun w' => w'.cell? (ad242.add ((x4_1).toNat * 7)) = some (.int .i64 ((rd_T32 l0 x4_1).f0)) ∧ w'.cell? ⟨(ad242.add ((x4_1).toNat * 7)).block, (ad242.add ((x4_1).toNat * 7)).off + 1, none⟩ = some (.int .i64 ((rd_T32 l0 x4_1).f1.f0)) ∧ w'.cell? ⟨(ad242.add ((x4_1).toNat * 7)).block, (ad242.add ((x4_1).toNat * 7)).off + 2, none⟩ = some (.int .i64 ((rd_T32 l0 x4_1).f1.f1)) ∧ w'.cell? ⟨(ad242.add ((x4_1).toNat * 7)).block, (ad242.add ((x4_1).toNat * 7)).off + 3, none⟩ = some (.int .u8 ((rd_T32 l0 x4_1).f2)) ∧ w'.cell? ⟨(ad242.add ((x4_1).toNat * 7)).block, (ad242.add ((x4_1).toNat * 7)).off + 4, none⟩ = some (.int .u8 ((rd_T32 l0 x4_1).f3.f0)) ∧ w'.cell? ⟨(ad242.add ((x4_1).toNat * 7)).block, (ad242.add ((x4_1).toNat * 7)).off + 5, none⟩ = some (.int .u8 ((rd_T32 l0 x4_1).f3.f1)) ∧ w'.cell? ⟨(ad242.add ((x4_1).toNat * 7)).block, (ad242.add ((x4_1).toNat * 7)).off + 6, none⟩ = some (.int .u8 ((rd_T32 l0 x4_1).f3.f2))) (ds := []) #[false, false, false, false, false, false, false] (by kernel_rfl) rfl rfl ⟨((HB.out.cell (World.block_lt_of_cell? w _ hw242_0)).trans hw242_0), ((HB.out.cell (World.block_lt_of_cell? w _ hw242_1)).trans hw242_1), ((HB.out.cell (World.block_lt_of_cell? w _ hw242_2)).trans hw242_2), ((HB.out.cell (World.block_lt_of_cell? w _ hw242_3)).trans hw242_3), ((HB.out.cell (World.block_lt_of_cell? w _ hw242_4)).trans hw242_4), ((HB.out.cell (World.block_lt_of_cell? w _ hw242_5)).trans hw242_5), ((HB.out.cell (World.block_lt_of_cell? w _ hw242_6)).trans hw242_6)⟩ (fun hHeld => ?_)
            generalize wr.drew = w8 at HB hx242_0 hx242_1 hx242_2 hx242_3 hx242_4 hx242_5 hx242_6 hHeld ⊢
            refine pure_ (i := 0) (N := some 11) (v := ?_) (a' := ?_) #[true, false, false, false, false, false, false] rfl rfl (by kernel_rfl) (fun _ _ _ h => h) (Or.inl ⟨by rfl, ?_⟩) ?_ ?_
            rotate_left
            · intro w'
              go_simp
              with_reducible rfl
            rotate_left
            · simp only [Act.put, List.setIfInBounds_toArray, List.set_cons_zero, List.set_cons_succ, i64_w, i32_w]
              rfl
            refine pure_ (i := 1) (N := some 12) (v := ?_) (a' := ?_) #[true, true, false, false, false, false, false] rfl rfl (by kernel_rfl) (fun _ _ _ h => h) (Or.inl ⟨by rfl, ?_⟩) ?_ ?_
            rotate_left
            · intro w'
              go_simp
              with_reducible rfl
            rotate_left
            · simp only [Act.put, List.setIfInBounds_toArray, List.set_cons_zero, List.set_cons_succ, i64_w, i32_w]
              rfl
            refine pure_ (i := 2) (N := some 13) (v := ?_) (a' := ?_) #[true, true, true, false, false, false, false] rfl rfl (by kernel_rfl) (fun _ _ _ h => h) (Or.inl ⟨by rfl, ?_⟩) ?_ ?_
            rotate_left
            · intro w'
              go_simp
              with_reducible rfl
            rotate_left
            · simp only [Act.put, List.setIfInBounds_toArray, List.set_cons_zero, List.set_cons_succ, i64_w, i32_w]
              rfl
            refine pure_ (i := 4) (N := some 15) (v := ?_) (a' := ?_) #[true, true, true, false, true, false, false] rfl rfl (by kernel_rfl) (fun _ _ _ h => h) (Or.inl ⟨by rfl, ?_⟩) ?_ ?_
            rotate_left
            · intro w'
              go_simp
              with_reducible rfl
            rotate_left
            · simp only [Act.put, List.setIfInBounds_toArray, List.set_cons_zero, List.set_cons_succ, i64_w, i32_w]
              rfl
            refine take_ (i := 3) (N := some 14) (v := ?_) (a' := ?_) #[true, true, true, true, true, false, false] rfl rfl (by kernel_rfl) (fun _ _ _ h => h) (Or.inl ⟨by rfl, ?_⟩) hHeld ?_ ?_
            rotate_left
            · rintro w' ⟨s0, s1, s2, s3, s4, s5, s6⟩
              go_simp
              with_reducible rfl
            rotate_left
            · simp only [Act.put, List.setIfInBounds_toArray, List.set_cons_zero, List.set_cons_succ, i64_w, i32_w]
              rfl
            refine one_ (i := 5) (N := some 16) #[true, true, true, true, true, true, false] rfl rfl (by kernel_rfl) (by decide) (fun K hK => ?_)
            refine goes_ Try.func22 (by kernel_rfl) rfl #[.agg #[.int .u8 0, .int .u8 0, .int .u8 0]] (by rfl) rfl rfl (by (try simp only [List.map_toArray, List.map_cons, List.map_nil]); first | done | rfl | (simp only [List.length_drop, List.length_take]; rfl)) ?_
            with_reducible refine (prolepsisref05_Blank.calls 0 0 0 t243 t244 t245 t246 t247 t248 t249 _ A4.out).mono ?_
            rintro e w9 ⟨rfl, hb⟩
            refine ⟨_, rfl, ?_⟩
            have n0_ := Aside0.mk (below_step (by repeat (first | (with_reducible first | exact HB.out | apply below_alloc | apply pw_below_drewN | apply below_drew1) | exact HB.out)) hb)
            clear HB
            have HB := n0_
            clear n0_
            (try clear hb)
            (try clear hb2)
            (try clear hk)
            (try clear hi)
            refine hK.out _ _ ⟨((HB.out.cell (World.block_lt_of_cell? w _ hw242_0)).trans hw242_0), ((HB.out.cell (World.block_lt_of_cell? w _ hw242_1)).trans hw242_1), ((HB.out.cell (World.block_lt_of_cell? w _ hw242_2)).trans hw242_2), ((HB.out.cell (World.block_lt_of_cell? w _ hw242_3)).trans hw242_3), ((HB.out.cell (World.block_lt_of_cell? w _ hw242_4)).trans hw242_4), ((HB.out.cell (World.block_lt_of_cell? w _ hw242_5)).trans hw242_5), ((HB.out.cell (World.block_lt_of_cell? w _ hw242_6)).trans hw242_6)⟩ (fun hHeld => ?_)
            clear hK K
            refine norm_ (a' := ?_) ?_ ?_
            rotate_left
            · show Act.put _ (some 16) _ = _
              simp only [Act.put, List.setIfInBounds_toArray, List.set_cons_zero, List.set_cons_succ, i64_w, i32_w]
              rfl
            refine pure_ (i := 6) (N := some 17) (v := ?_) (a' := ?_) #[true, true, true, true, true, true, true] rfl rfl (by kernel_rfl) (fun _ _ _ h => h) (Or.inl ⟨by rfl, ?_⟩) ?_ ?_
            rotate_left
            · intro w'
              go_simp
              with_reducible rfl
            rotate_left
            · simp only [Act.put, List.setIfInBounds_toArray, List.set_cons_zero, List.set_cons_succ, i64_w, i32_w]
              rfl
            refine done_ (by kernel_rfl) ?_
            try go_wp2
            go_roundg k1
            case measure => have := HK1.out; omega
            case rel => exact ⟨(x3_1), (wrap64 (x4_1 + 1)), (by first | rfl | (simp; done) | (simp [*]; done)), (by first | rfl | (simp; done) | (simp [*]; done)), H', ⟨by have := HK1.out; omega⟩, ⟨by repeat (first | (with_reducible first | exact HB.out | apply below_alloc | apply pw_below_drewN | apply below_drew1) | exact HB.out)⟩⟩
        · rw [if_neg c3] at H
          exact absurd H (by simp)
      · rw [if_neg c2] at H
        have c2b0 : decide (x4_1 < (l0.length : Int)) = false := decide_eq_false c2
        clear c2
        obtain rfl := Option.some.inj H
        go_wp2
        go_ret
        exact ⟨by first | rfl | (simp <;> rfl) | (simp [*] <;> rfl), by repeat (first | (with_reducible first | exact HB.out | apply below_alloc | apply pw_below_drewN | apply below_drew1) | exact HB.out)⟩

/-! ### cell_Runes: function 30: of own contracts -/
def cell_Runes.f (a0_0 : Int) (a0_1 : Int) (a0_2 : Int) (a0_3 : Int) (a0_4 : Int) (a0_5 : Int) (a0_6 : Int) : Option (List Int) := some (runesC a0_0 a0_1 a0_2 a0_3)
theorem cell_Runes.calls (a0_0 : Int) (a0_1 : Int) (a0_2 : Int) (a0_3 : Int) (a0_4 : Int) (a0_5 : Int) (a0_6 : Int) (r : List Int) (w : World) (h : cell_Runes.f a0_0 a0_1 a0_2 a0_3 a0_4 a0_5 a0_6 = some r) :
    Calls Try.prog 30 #[.agg #[.int .i32 a0_0, .int .i32 a0_1, .int .i32 a0_2, .int .u8 a0_3, .int .u8 a0_4, .int .u8 a0_5, .int .u8 a0_6]] w fun e w' => ∃ v0_ : Value, e = .returned (v0_) ∧ Kd.R (Kd.int .i32) 21 w' w.heap.size (fun _ => True) v0_ r ∧ Below w.heap.size w w' := by
  obtain rfl := Option.some.inj h
  exact cellRunes_any _ _ _ _ _ _ _ w

end Go.Proofs.Ytblcmcdifgclcaa.PLineAsks
