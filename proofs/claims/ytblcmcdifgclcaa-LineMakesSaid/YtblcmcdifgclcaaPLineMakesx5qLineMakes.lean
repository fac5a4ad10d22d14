/- LineMakes: what its proof leads to. No condition. -/
import Derived.Test.YtblcmcdifgclcaaPLineMakesx0qLineMakes
import Derived.Test.YtblcmcdifgclcaaPLineMakesx4qLineMakes
import Derived.Test.YtblcmcdifgclcaaShortqLineMakes
namespace Go.Proofs.Ytblcmcdifgclcaa.PLineMakes
open Go.RowKit Go.Proofs.YtblcmcdifgclcaaW.PrintWords Go.Proofs.YtblcmcdifgclcaaW.PrintLast Go.Proofs.YtblcmcdifgclcaaW.PrintMore
attribute [local go_sem] isSome_setCell max2_int min2_int max_two min_two
set_option linter.unusedVariables false
set_option linter.unusedSimpArgs false

def prolepsisref03_Of.j0 : Nat → Int → Bool → Option (Int)
  | 0, _, _ => none
  | k + 1, x0, x14 => if x14 = true then (some (-1)) else ((prolepsisref03_in.f k x0 (([768, 879, 8203, 8207, 8400, 8447, 65024, 65039, 65056, 65071] : List Int))).bind fun t234 => (if t234 = true then (some 0) else ((prolepsisref03_in.f k x0 (([4352, 4447, 11904, 12350, 12353, 42191, 44032, 55203, 63744, 64255, 65072, 65135, 65280, 65376, 65504, 65510, 127744, 128591, 129280, 129535, 131072, 262141] : List Int))).bind fun t238 => (if t238 = true then (some 2) else (some 1)))))
def prolepsisref03_Of.f (k : Nat) (a0 : Int) : Option (Int) := if a0 < 32 then (prolepsisref03_Of.j0 k a0 true) else ((prolepsisref03_in.f k a0 (([127, 159] : List Int))).bind fun t229 => (if t229 = true then (prolepsisref03_Of.j0 k a0 true) else ((prolepsisref02_Scalar.f a0).bind fun t230 => (prolepsisref03_Of.j0 k a0 (!t230)))))
set_option maxHeartbeats 8000000 in
set_option maxRecDepth 100000 in
theorem prolepsisref03_Of.calls (k : Nat) (a0 : Int) (r : Int) (w : World) (h : prolepsisref03_Of.f k a0 = some r) :
    Calls Try.prog 85 #[.int .i64 a0] w fun e w' => e = .returned (.int .i64 r) ∧ Below w.heap.size w w' := by
  have HB := aS (Below.refl w.heap.size w)
  have H : (if a0 < 32 then (prolepsisref03_Of.j0 k a0 true) else ((prolepsisref03_in.f k a0 (([127, 159] : List Int))).bind fun t229 => (if t229 = true then (prolepsisref03_Of.j0 k a0 true) else ((prolepsisref02_Scalar.f a0).bind fun t230 => (prolepsisref03_Of.j0 k a0 (!t230)))))) = some r := h
  clear h
  have HC2 := Aside0.mk H
  clear H
  go_enter Try.func85, Try.ntmps85
  go_upto_region 1 with (fail)
  go_cut [14] (fun v14 wc => ∃ (kq : Nat) (x14_1 : Bool), v14 = .bool x14_1 ∧ Aside0 (prolepsisref03_Of.j0 kq a0 x14_1 = some r) ∧ Aside0 (kq ≤ k) ∧ Aside0 (Below w.heap.size w wc))
  case first =>
    have H := HC2.out
    clear HC2
    by_cases c3 : a0 < 32
    · rw [if_pos c3] at H
      have c3b0 : decide (a0 < 32) = true := decide_eq_true c3
      clear c3
      (first | rw [c3b0] | (simp only [i64_w, i32_w]; rw [c3b0]) | skip)
      have H' := Aside0.mk H
      clear H
      go_wp2
      go_meet
      case rel => exact ⟨_, (true), (by first | rfl | (simp; done) | (simp [*]; done)), H', ⟨by first | omega | exact Nat.le_refl _⟩, ⟨by repeat (first | (with_reducible first | exact HB.out | apply lA | apply lN | apply lD) | exact HB.out)⟩⟩
    · rw [if_neg c3] at H
      have c3b0 : decide (a0 < 32) = false := decide_eq_false c3
      clear c3
      (first | rw [c3b0] | (simp only [i64_w, i32_w]; rw [c3b0]) | skip)
      obtain ⟨y226, hy226⟩ : ∃ y_ : List Int, y_ = (([127, 159] : List Int)) := ⟨_, rfl⟩
      replace H : ((prolepsisref03_in.f k a0 y226).bind fun t229 => (if t229 = true then (prolepsisref03_Of.j0 k a0 true) else ((prolepsisref02_Scalar.f a0).bind fun t230 => (prolepsisref03_Of.j0 k a0 (!t230))))) = some r := by first | (rw [hy226]; with_reducible exact H) | (have H2_ := (Option.bind_some _ _).symm.trans H; rw [hy226]; with_reducible exact H2_) | (have H2_ := (Option.bind_some _ _).symm.trans H; with_reducible exact H2_) | with_reducible exact H | (rw [hy226]; exact H) | exact H
      have Ny226 := Aside0.mk hy226
      clear hy226
      replace H := Option.bind_eq_some_iff.mp H
      obtain ⟨t229, A40, H⟩ := H
      try dsimp only at H
      have A4 := Aside0.mk A40
      clear A40
      by_cases c5 : t229 = true
      · subst c5
        have H1 : (prolepsisref03_Of.j0 k a0 true) = some r := by rw [if_pos rfl] at H; exact H
        clear H
        have H := H1
        clear H1
        have H' := Aside0.mk H
        clear H
        go_wp2_with (first | ((with_reducible refine gate_dst (N := 7) rfl ?_); (try (refine gate_guard (by rfl) ?_; dsimp only)); refine Kd.R_lit (Kd.int .i64) _ 3 ?hg (N := 7) ?hd (xs := ([127, 159] : List Int)) (inner := [.int .i64 127, .int .i64 159]) (ok := fun _ => True) (okp := fun _ => True) ?hr ?hp (fun _ hk => hk) trivial (Below.refl _ _) (Nat.le_refl _) (by simp) ?_; (case hd => rfl); (case hg => rfl); (case hr => first | (go_simp; done) | (go_simp; rfl)); (case hp => exact (Reps.one (show Kd.M (Kd.int .i64) _ _ _ 127 [.int .i64 127] from rfl) (Reps.one (show Kd.M (Kd.int .i64) _ _ _ 159 [.int .i64 159] from rfl) (Reps.none _ _)))); intro v227 w6 ho7 hb hg_ hnew_; clear hg_ hnew_; (first | rw [← Ny226.out] at ho7 | (simp only [Int.reduceToNat] at ho7; rw [← Ny226.out] at ho7)); have n0_ := aS (Kd.R_lower ho7 (below_size (by repeat (first | (with_reducible first | exact HB.out | apply lA | apply lN | apply lD) | exact HB.out)))); have n1_ := aS (below_step (by repeat (first | (with_reducible first | exact HB.out | apply lA | apply lN | apply lD) | exact HB.out)) hb); clear HB; have HO228 := n0_; have HB := n1_; clear n0_ n1_; clear hb ho7; obtain ⟨Ao8, co8, eo8⟩ := Kd.R_slice HO228.out; subst eo8) | (go_at_call 126; (with_reducible refine (prolepsisref03_in.calls k a0 _ _ y226 true _ ?side1 ?side2 A4.out).mono ?_); (case side1 => repeat (first | exact (Kd.R_reads' HO228.out).2.2 | (with_reducible refine Kd.C_alloc ?_ _) | (with_reducible refine Kd.C_drewN ?_ _) | (with_reducible refine Kd.C_drew ?_))); (case side2 => exact (Kd.R_reads' HO228.out).2.1); rintro e w' ⟨rfl, ⟨nd, rfl⟩⟩))
        go_meet
        case rel => exact ⟨_, (true), (by first | rfl | (simp; done) | (simp [*]; done)), H', ⟨by first | omega | exact Nat.le_refl _⟩, ⟨by repeat (first | (with_reducible first | exact HB.out | apply lA | apply lN | apply lD) | exact HB.out)⟩⟩
      · replace c5 := Bool.eq_false_iff.mpr c5
        subst c5
        have H1 : ((prolepsisref02_Scalar.f a0).bind fun t230 => (prolepsisref03_Of.j0 k a0 (!t230))) = some r := by rw [if_neg (show ¬ (false = true) by decide)] at H; exact H
        clear H
        have H := H1
        clear H1
        replace H := Option.bind_eq_some_iff.mp H
        obtain ⟨t230, A90, H⟩ := H
        try dsimp only at H
        have A9 := Aside0.mk A90
        clear A90
        have H' := Aside0.mk H
        clear H
        go_wp2_with (first | ((with_reducible refine gate_dst (N := 7) rfl ?_); (try (refine gate_guard (by rfl) ?_; dsimp only)); refine Kd.R_lit (Kd.int .i64) _ 3 ?hg (N := 7) ?hd (xs := ([127, 159] : List Int)) (inner := [.int .i64 127, .int .i64 159]) (ok := fun _ => True) (okp := fun _ => True) ?hr ?hp (fun _ hk => hk) trivial (Below.refl _ _) (Nat.le_refl _) (by simp) ?_; (case hd => rfl); (case hg => rfl); (case hr => first | (go_simp; done) | (go_simp; rfl)); (case hp => exact (Reps.one (show Kd.M (Kd.int .i64) _ _ _ 127 [.int .i64 127] from rfl) (Reps.one (show Kd.M (Kd.int .i64) _ _ _ 159 [.int .i64 159] from rfl) (Reps.none _ _)))); intro v227 w10 ho11 hb hg_ hnew_; clear hg_ hnew_; (first | rw [← Ny226.out] at ho11 | (simp only [Int.reduceToNat] at ho11; rw [← Ny226.out] at ho11)); have n0_ := aS (Kd.R_lower ho11 (below_size (by repeat (first | (with_reducible first | exact HB.out | apply lA | apply lN | apply lD) | exact HB.out)))); have n1_ := aS (below_step (by repeat (first | (with_reducible first | exact HB.out | apply lA | apply lN | apply lD) | exact HB.out)) hb); clear HB; have HO228 := n0_; have HB := n1_; clear n0_ n1_; clear hb ho11; obtain ⟨Ao12, co12, eo12⟩ := Kd.R_slice HO228.out; subst eo12) | (go_at_call 126; (with_reducible refine (prolepsisref03_in.calls k a0 _ _ y226 false _ ?side1 ?side2 A4.out).mono ?_); (case side1 => repeat (first | exact (Kd.R_reads' HO228.out).2.2 | (with_reducible refine Kd.C_alloc ?_ _) | (with_reducible refine Kd.C_drewN ?_ _) | (with_reducible refine Kd.C_drew ?_))); (case side2 => exact (Kd.R_reads' HO228.out).2.1); rintro e w' ⟨rfl, ⟨nd, rfl⟩⟩) | (go_at_call 127; (with_reducible refine (prolepsisref02_Scalar.calls a0 t230 _ A9.out).mono ?_); rintro e w' ⟨rfl, ⟨nd, rfl⟩⟩))
        go_meet
        case rel => exact ⟨_, (!t230), (by first | rfl | (simp; done) | (simp [*]; done)), H', ⟨by first | omega | exact Nat.le_refl _⟩, ⟨by repeat (first | (with_reducible first | exact HB.out | apply lA | apply lN | apply lD) | exact HB.out)⟩⟩
  case rest =>
    clear HC2
    try clear p2
    try clear c3
    try clear c3b0
    try clear c5
    try clear c8
    obtain ⟨kq, x14_1, rfl, HA, HJ1, HB⟩ := hcut
    cases kq with
    | zero => exact absurd HA.out (by simp [prolepsisref03_Of.j0])
    | succ kj1 =>
      have H := HA.out
      clear HA
      simp only [prolepsisref03_Of.j0] at H
      by_cases c13 : x14_1 = true
      · subst c13
        have H1 : (some (-1)) = some r := by rw [if_pos rfl] at H; exact H
        clear H
        have H := H1
        clear H1
        obtain rfl := Option.some.inj H
        go_wp2
        go_ret
        exact ⟨by first | rfl | (simp <;> rfl) | (simp [*] <;> rfl), by repeat (first | (with_reducible first | exact HB.out | apply lA | apply lN | apply lD) | exact HB.out)⟩
      · replace c13 := Bool.eq_false_iff.mpr c13
        subst c13
        have H1 : ((prolepsisref03_in.f kj1 a0 (([768, 879, 8203, 8207, 8400, 8447, 65024, 65039, 65056, 65071] : List Int))).bind fun t234 => (if t234 = true then (some 0) else ((prolepsisref03_in.f kj1 a0 (([4352, 4447, 11904, 12350, 12353, 42191, 44032, 55203, 63744, 64255, 65072, 65135, 65280, 65376, 65504, 65510, 127744, 128591, 129280, 129535, 131072, 262141] : List Int))).bind fun t238 => (if t238 = true then (some 2) else (some 1))))) = some r := by rw [if_neg (show ¬ (false = true) by decide)] at H; exact H
        clear H
        have H := H1
        clear H1
        obtain ⟨y231, hy231⟩ : ∃ y_ : List Int, y_ = (([768, 879, 8203, 8207, 8400, 8447, 65024, 65039, 65056, 65071] : List Int)) := ⟨_, rfl⟩
        replace H : ((prolepsisref03_in.f kj1 a0 y231).bind fun t234 => (if t234 = true then (some 0) else ((prolepsisref03_in.f kj1 a0 (([4352, 4447, 11904, 12350, 12353, 42191, 44032, 55203, 63744, 64255, 65072, 65135, 65280, 65376, 65504, 65510, 127744, 128591, 129280, 129535, 131072, 262141] : List Int))).bind fun t238 => (if t238 = true then (some 2) else (some 1))))) = some r := by first | (rw [hy231]; with_reducible exact H) | (have H2_ := (Option.bind_some _ _).symm.trans H; rw [hy231]; with_reducible exact H2_) | (have H2_ := (Option.bind_some _ _).symm.trans H; with_reducible exact H2_) | with_reducible exact H | (rw [hy231]; exact H) | exact H
        have Ny231 := Aside0.mk hy231
        clear hy231
        replace H := Option.bind_eq_some_iff.mp H
        obtain ⟨t234, A140, H⟩ := H
        try dsimp only at H
        have A14 := Aside0.mk A140
        clear A140
        by_cases c15 : t234 = true
        · subst c15
          have H1 : (some 0) = some r := by rw [if_pos rfl] at H; exact H
          clear H
          have H := H1
          clear H1
          obtain rfl := Option.some.inj H
          go_wp2_with (first | ((with_reducible refine gate_dst (N := 16) rfl ?_); (try (refine gate_guard (by rfl) ?_; dsimp only)); refine Kd.R_lit (Kd.int .i64) _ 3 ?hg (N := 16) ?hd (xs := ([768, 879, 8203, 8207, 8400, 8447, 65024, 65039, 65056, 65071] : List Int)) (inner := [.int .i64 768, .int .i64 879, .int .i64 8203, .int .i64 8207, .int .i64 8400, .int .i64 8447, .int .i64 65024, .int .i64 65039, .int .i64 65056, .int .i64 65071]) (ok := fun _ => True) (okp := fun _ => True) ?hr ?hp (fun _ hk => hk) trivial (Below.refl _ _) (Nat.le_refl _) (by simp) ?_; (case hd => rfl); (case hg => rfl); (case hr => first | (go_simp; done) | (go_simp; rfl)); (case hp => exact (Reps.one (show Kd.M (Kd.int .i64) _ _ _ 768 [.int .i64 768] from rfl) (Reps.one (show Kd.M (Kd.int .i64) _ _ _ 879 [.int .i64 879] from rfl) (Reps.one (show Kd.M (Kd.int .i64) _ _ _ 8203 [.int .i64 8203] from rfl) (Reps.one (show Kd.M (Kd.int .i64) _ _ _ 8207 [.int .i64 8207] from rfl) (Reps.one (show Kd.M (Kd.int .i64) _ _ _ 8400 [.int .i64 8400] from rfl) (Reps.one (show Kd.M (Kd.int .i64) _ _ _ 8447 [.int .i64 8447] from rfl) (Reps.one (show Kd.M (Kd.int .i64) _ _ _ 65024 [.int .i64 65024] from rfl) (Reps.one (show Kd.M (Kd.int .i64) _ _ _ 65039 [.int .i64 65039] from rfl) (Reps.one (show Kd.M (Kd.int .i64) _ _ _ 65056 [.int .i64 65056] from rfl) (Reps.one (show Kd.M (Kd.int .i64) _ _ _ 65071 [.int .i64 65071] from rfl) (Reps.none _ _)))))))))))); intro v232 w16 ho17 hb hg_ hnew_; clear hg_ hnew_; (first | rw [← Ny231.out] at ho17 | (simp only [Int.reduceToNat] at ho17; rw [← Ny231.out] at ho17)); have n0_ := aS (Kd.R_lower ho17 (below_size (by repeat (first | (with_reducible first | exact HB.out | apply lA | apply lN | apply lD) | exact HB.out)))); have n1_ := aS (below_step (by repeat (first | (with_reducible first | exact HB.out | apply lA | apply lN | apply lD) | exact HB.out)) hb); clear HB; have HO233 := n0_; have HB := n1_; clear n0_ n1_; clear hb ho17; obtain ⟨Ao18, co18, eo18⟩ := Kd.R_slice HO233.out; subst eo18) | ((with_reducible refine gate_callee (f := 126) rfl ?_); refine goesL_ (some 17) rfl rfl Try.func126 (by kernel_rfl) rfl #[.int .i64 a0, .slice Ao18 y231.length co18] rfl (by (try simp only [List.map_toArray, List.map_cons, List.map_nil]); first | done | rfl | (simp only [List.length_drop, List.length_take]; rfl)) ?_; (with_reducible refine (prolepsisref03_in.calls kj1 a0 _ _ y231 true _ ?side1 ?side2 A14.out).mono ?_); (case side1 => repeat (first | exact (Kd.R_reads' HO233.out).2.2 | (with_reducible refine Kd.C_alloc ?_ _) | (with_reducible refine Kd.C_drewN ?_ _) | (with_reducible refine Kd.C_drew ?_))); (case side2 => exact (Kd.R_reads' HO233.out).2.1); rintro e w' ⟨rfl, ⟨nd, rfl⟩⟩; refine ⟨_, rfl, ?_⟩))
          go_ret
          exact ⟨by first | rfl | (simp <;> rfl) | (simp [*] <;> rfl), by repeat (first | (with_reducible first | exact HB.out | apply lA | apply lN | apply lD) | exact HB.out)⟩
        · replace c15 := Bool.eq_false_iff.mpr c15
          subst c15
          have H1 : ((prolepsisref03_in.f kj1 a0 (([4352, 4447, 11904, 12350, 12353, 42191, 44032, 55203, 63744, 64255, 65072, 65135, 65280, 65376, 65504, 65510, 127744, 128591, 129280, 129535, 131072, 262141] : List Int))).bind fun t238 => (if t238 = true then (some 2) else (some 1))) = some r := by rw [if_neg (show ¬ (false = true) by decide)] at H; exact H
          clear H
          have H := H1
          clear H1
          obtain ⟨y235, hy235⟩ : ∃ y_ : List Int, y_ = (([4352, 4447, 11904, 12350, 12353, 42191, 44032, 55203, 63744, 64255, 65072, 65135, 65280, 65376, 65504, 65510, 127744, 128591, 129280, 129535, 131072, 262141] : List Int)) := ⟨_, rfl⟩
          replace H : ((prolepsisref03_in.f kj1 a0 y235).bind fun t238 => (if t238 = true then (some 2) else (some 1))) = some r := by first | (rw [hy235]; with_reducible exact H) | (have H2_ := (Option.bind_some _ _).symm.trans H; rw [hy235]; with_reducible exact H2_) | (have H2_ := (Option.bind_some _ _).symm.trans H; with_reducible exact H2_) | with_reducible exact H | (rw [hy235]; exact H) | exact H
          have Ny235 := Aside0.mk hy235
          clear hy235
          replace H := Option.bind_eq_some_iff.mp H
          obtain ⟨t238, A190, H⟩ := H
          try dsimp only at H
          have A19 := Aside0.mk A190
          clear A190
          by_cases c20 : t238 = true
          · subst c20
            have H1 : (some 2) = some r := by rw [if_pos rfl] at H; exact H
            clear H
            have H := H1
            clear H1
            obtain rfl := Option.some.inj H
            go_wp2_with (first | ((with_reducible refine gate_dst (N := 16) rfl ?_); (try (refine gate_guard (by rfl) ?_; dsimp only)); refine Kd.R_lit (Kd.int .i64) _ 3 ?hg (N := 16) ?hd (xs := ([768, 879, 8203, 8207, 8400, 8447, 65024, 65039, 65056, 65071] : List Int)) (inner := [.int .i64 768, .int .i64 879, .int .i64 8203, .int .i64 8207, .int .i64 8400, .int .i64 8447, .int .i64 65024, .int .i64 65039, .int .i64 65056, .int .i64 65071]) (ok := fun _ => True) (okp := fun _ => True) ?hr ?hp (fun _ hk => hk) trivial (Below.refl _ _) (Nat.le_refl _) (by simp) ?_; (case hd => rfl); (case hg => rfl); (case hr => first | (go_simp; done) | (go_simp; rfl)); (case hp => exact (Reps.one (show Kd.M (Kd.int .i64) _ _ _ 768 [.int .i64 768] from rfl) (Reps.one (show Kd.M (Kd.int .i64) _ _ _ 879 [.int .i64 879] from rfl) (Reps.one (show Kd.M (Kd.int .i64) _ _ _ 8203 [.int .i64 8203] from rfl) (Reps.one (show Kd.M (Kd.int .i64) _ _ _ 8207 [.int .i64 8207] from rfl) (Reps.one (show Kd.M (Kd.int .i64) _ _ _ 8400 [.int .i64 8400] from rfl) (Reps.one (show Kd.M (Kd.int .i64) _ _ _ 8447 [.int .i64 8447] from rfl) (Reps.one (show Kd.M (Kd.int .i64) _ _ _ 65024 [.int .i64 65024] from rfl) (Reps.one (show Kd.M (Kd.int .i64) _ _ _ 65039 [.int .i64 65039] from rfl) (Reps.one (show Kd.M (Kd.int .i64) _ _ _ 65056 [.int .i64 65056] from rfl) (Reps.one (show Kd.M (Kd.int .i64) _ _ _ 65071 [.int .i64 65071] from rfl) (Reps.none _ _)))))))))))); intro v232 w21 ho22 hb hg_ hnew_; clear hg_ hnew_; (first | rw [← Ny231.out] at ho22 | (simp only [Int.reduceToNat] at ho22; rw [← Ny231.out] at ho22)); have n0_ := aS (Kd.R_lower ho22 (below_size (by repeat (first | (with_reducible first | exact HB.out | apply lA | apply lN | apply lD) | exact HB.out)))); have n1_ := aS (below_step (by repeat (first | (with_reducible first | exact HB.out | apply lA | apply lN | apply lD) | exact HB.out)) hb); clear HB; have HO233 := n0_; have HB := n1_; clear n0_ n1_; clear hb ho22; obtain ⟨Ao23, co23, eo23⟩ := Kd.R_slice HO233.out; subst eo23) | ((with_reducible refine gate_callee (f := 126) rfl ?_); refine goesL_ (some 17) rfl rfl Try.func126 (by kernel_rfl) rfl #[.int .i64 a0, .slice Ao23 y231.length co23] rfl (by (try simp only [List.map_toArray, List.map_cons, List.map_nil]); first | done | rfl | (simp only [List.length_drop, List.length_take]; rfl)) ?_; (with_reducible refine (prolepsisref03_in.calls kj1 a0 _ _ y231 false _ ?side1 ?side2 A14.out).mono ?_); (case side1 => repeat (first | exact (Kd.R_reads' HO233.out).2.2 | (with_reducible refine Kd.C_alloc ?_ _) | (with_reducible refine Kd.C_drewN ?_ _) | (with_reducible refine Kd.C_drew ?_))); (case side2 => exact (Kd.R_reads' HO233.out).2.1); rintro e w' ⟨rfl, ⟨nd, rfl⟩⟩; refine ⟨_, rfl, ?_⟩) | ((with_reducible refine gate_dst (N := 19) rfl ?_); (try (refine gate_guard (by rfl) ?_; dsimp only)); refine Kd.R_lit (Kd.int .i64) _ 3 ?hg (N := 19) ?hd (xs := ([4352, 4447, 11904, 12350, 12353, 42191, 44032, 55203, 63744, 64255, 65072, 65135, 65280, 65376, 65504, 65510, 127744, 128591, 129280, 129535, 131072, 262141] : List Int)) (inner := [.int .i64 4352, .int .i64 4447, .int .i64 11904, .int .i64 12350, .int .i64 12353, .int .i64 42191, .int .i64 44032, .int .i64 55203, .int .i64 63744, .int .i64 64255, .int .i64 65072, .int .i64 65135, .int .i64 65280, .int .i64 65376, .int .i64 65504, .int .i64 65510, .int .i64 127744, .int .i64 128591, .int .i64 129280, .int .i64 129535, .int .i64 131072, .int .i64 262141]) (ok := fun _ => True) (okp := fun _ => True) ?hr ?hp (fun _ hk => hk) trivial (Below.refl _ _) (Nat.le_refl _) (by simp) ?_; (case hd => rfl); (case hg => rfl); (case hr => first | (go_simp; done) | (go_simp; rfl)); (case hp => exact (Reps.one (show Kd.M (Kd.int .i64) _ _ _ 4352 [.int .i64 4352] from rfl) (Reps.one (show Kd.M (Kd.int .i64) _ _ _ 4447 [.int .i64 4447] from rfl) (Reps.one (show Kd.M (Kd.int .i64) _ _ _ 11904 [.int .i64 11904] from rfl) (Reps.one (show Kd.M (Kd.int .i64) _ _ _ 12350 [.int .i64 12350] from rfl) (Reps.one (show Kd.M (Kd.int .i64) _ _ _ 12353 [.int .i64 12353] from rfl) (Reps.one (show Kd.M (Kd.int .i64) _ _ _ 42191 [.int .i64 42191] from rfl) (Reps.one (show Kd.M (Kd.int .i64) _ _ _ 44032 [.int .i64 44032] from rfl) (Reps.one (show Kd.M (Kd.int .i64) _ _ _ 55203 [.int .i64 55203] from rfl) (Reps.one (show Kd.M (Kd.int .i64) _ _ _ 63744 [.int .i64 63744] from rfl) (Reps.one (show Kd.M (Kd.int .i64) _ _ _ 64255 [.int .i64 64255] from rfl) (Reps.one (show Kd.M (Kd.int .i64) _ _ _ 65072 [.int .i64 65072] from rfl) (Reps.one (show Kd.M (Kd.int .i64) _ _ _ 65135 [.int .i64 65135] from rfl) (Reps.one (show Kd.M (Kd.int .i64) _ _ _ 65280 [.int .i64 65280] from rfl) (Reps.one (show Kd.M (Kd.int .i64) _ _ _ 65376 [.int .i64 65376] from rfl) (Reps.one (show Kd.M (Kd.int .i64) _ _ _ 65504 [.int .i64 65504] from rfl) (Reps.one (show Kd.M (Kd.int .i64) _ _ _ 65510 [.int .i64 65510] from rfl) (Reps.one (show Kd.M (Kd.int .i64) _ _ _ 127744 [.int .i64 127744] from rfl) (Reps.one (show Kd.M (Kd.int .i64) _ _ _ 128591 [.int .i64 128591] from rfl) (Reps.one (show Kd.M (Kd.int .i64) _ _ _ 129280 [.int .i64 129280] from rfl) (Reps.one (show Kd.M (Kd.int .i64) _ _ _ 129535 [.int .i64 129535] from rfl) (Reps.one (show Kd.M (Kd.int .i64) _ _ _ 131072 [.int .i64 131072] from rfl) (Reps.one (show Kd.M (Kd.int .i64) _ _ _ 262141 [.int .i64 262141] from rfl) (Reps.none _ _)))))))))))))))))))))))); intro v236 w24 ho25 hb hg_ hnew_; clear hg_ hnew_; (first | rw [← Ny235.out] at ho25 | (simp only [Int.reduceToNat] at ho25; rw [← Ny235.out] at ho25)); have n0_ := aS (Kd.R_elder' (by (with_reducible repeat (first | apply rA | apply rN | apply rD)); exact HO233.out) (Kd.R_base ho25) hb); have n1_ := aS (Kd.R_lower (Kd.R_new' ho25 (Kd.R_lt (by (with_reducible repeat (first | apply rA | apply rN | apply rD)); exact HO233.out))) (below_size (by repeat (first | (with_reducible first | exact HB.out | apply lA | apply lN | apply lD) | exact HB.out)))); have n2_ := aS (below_step (by repeat (first | (with_reducible first | exact HB.out | apply lA | apply lN | apply lD) | exact HB.out)) hb); clear HO233; clear HB; have HO233 := n0_; have HO237 := n1_; have HB := n2_; clear n0_ n1_ n2_; clear hb ho25; obtain ⟨Ao26, co26, eo26⟩ := Kd.R_slice HO237.out; subst eo26) | ((with_reducible refine gate_callee (f := 126) rfl ?_); refine goesL_ (some 20) rfl rfl Try.func126 (by kernel_rfl) rfl #[.int .i64 a0, .slice Ao26 y235.length co26] rfl (by (try simp only [List.map_toArray, List.map_cons, List.map_nil]); first | done | rfl | (simp only [List.length_drop, List.length_take]; rfl)) ?_; (with_reducible refine (prolepsisref03_in.calls kj1 a0 _ _ y235 true _ ?side1 ?side2 A19.out).mono ?_); (case side1 => repeat (first | exact (Kd.R_reads' HO237.out).2.2 | (with_reducible refine Kd.C_alloc ?_ _) | (with_reducible refine Kd.C_drewN ?_ _) | (with_reducible refine Kd.C_drew ?_))); (case side2 => exact (Kd.R_reads' HO237.out).2.1); rintro e w' ⟨rfl, ⟨nd, rfl⟩⟩; refine ⟨_, rfl, ?_⟩))
            go_ret
            exact ⟨by first | rfl | (simp <;> rfl) | (simp [*] <;> rfl), by repeat (first | (with_reducible first | exact HB.out | apply lA | apply lN | apply lD) | exact HB.out)⟩
          · replace c20 := Bool.eq_false_iff.mpr c20
            subst c20
            have H1 : (some 1) = some r := by rw [if_neg (show ¬ (false = true) by decide)] at H; exact H
            clear H
            have H := H1
            clear H1
            obtain rfl := Option.some.inj H
            go_wp2_with (first | ((with_reducible refine gate_dst (N := 16) rfl ?_); (try (refine gate_guard (by rfl) ?_; dsimp only)); refine Kd.R_lit (Kd.int .i64) _ 3 ?hg (N := 16) ?hd (xs := ([768, 879, 8203, 8207, 8400, 8447, 65024, 65039, 65056, 65071] : List Int)) (inner := [.int .i64 768, .int .i64 879, .int .i64 8203, .int .i64 8207, .int .i64 8400, .int .i64 8447, .int .i64 65024, .int .i64 65039, .int .i64 65056, .int .i64 65071]) (ok := fun _ => True) (okp := fun _ => True) ?hr ?hp (fun _ hk => hk) trivial (Below.refl _ _) (Nat.le_refl _) (by simp) ?_; (case hd => rfl); (case hg => rfl); (case hr => first | (go_simp; done) | (go_simp; rfl)); (case hp => exact (Reps.one (show Kd.M (Kd.int .i64) _ _ _ 768 [.int .i64 768] from rfl) (Reps.one (show Kd.M (Kd.int .i64) _ _ _ 879 [.int .i64 879] from rfl) (Reps.one (show Kd.M (Kd.int .i64) _ _ _ 8203 [.int .i64 8203] from rfl) (Reps.one (show Kd.M (Kd.int .i64) _ _ _ 8207 [.int .i64 8207] from rfl) (Reps.one (show Kd.M (Kd.int .i64) _ _ _ 8400 [.int .i64 8400] from rfl) (Reps.one (show Kd.M (Kd.int .i64) _ _ _ 8447 [.int .i64 8447] from rfl) (Reps.one (show Kd.M (Kd.int .i64) _ _ _ 65024 [.int .i64 65024] from rfl) (Reps.one (show Kd.M (Kd.int .i64) _ _ _ 65039 [.int .i64 65039] from rfl) (Reps.one (show Kd.M (Kd.int .i64) _ _ _ 65056 [.int .i64 65056] from rfl) (Reps.one (show Kd.M (Kd.int .i64) _ _ _ 65071 [.int .i64 65071] from rfl) (Reps.none _ _)))))))))))); intro v232 w27 ho28 hb hg_ hnew_; clear hg_ hnew_; (first | rw [← Ny231.out] at ho28 | (simp only [Int.reduceToNat] at ho28; rw [← Ny231.out] at ho28)); have n0_ := aS (Kd.R_lower ho28 (below_size (by repeat (first | (with_reducible first | exact HB.out | apply lA | apply lN | apply lD) | exact HB.out)))); have n1_ := aS (below_step (by repeat (first | (with_reducible first | exact HB.out | apply lA | apply lN | apply lD) | exact HB.out)) hb); clear HB; have HO233 := n0_; have HB := n1_; clear n0_ n1_; clear hb ho28; obtain ⟨Ao29, co29, eo29⟩ := Kd.R_slice HO233.out; subst eo29) | ((with_reducible refine gate_callee (f := 126) rfl ?_); refine goesL_ (some 17) rfl rfl Try.func126 (by kernel_rfl) rfl #[.int .i64 a0, .slice Ao29 y231.length co29] rfl (by (try simp only [List.map_toArray, List.map_cons, List.map_nil]); first | done | rfl | (simp only [List.length_drop, List.length_take]; rfl)) ?_; (with_reducible refine (prolepsisref03_in.calls kj1 a0 _ _ y231 false _ ?side1 ?side2 A14.out).mono ?_); (case side1 => repeat (first | exact (Kd.R_reads' HO233.out).2.2 | (with_reducible refine Kd.C_alloc ?_ _) | (with_reducible refine Kd.C_drewN ?_ _) | (with_reducible refine Kd.C_drew ?_))); (case side2 => exact (Kd.R_reads' HO233.out).2.1); rintro e w' ⟨rfl, ⟨nd, rfl⟩⟩; refine ⟨_, rfl, ?_⟩) | ((with_reducible refine gate_dst (N := 19) rfl ?_); (try (refine gate_guard (by rfl) ?_; dsimp only)); refine Kd.R_lit (Kd.int .i64) _ 3 ?hg (N := 19) ?hd (xs := ([4352, 4447, 11904, 12350, 12353, 42191, 44032, 55203, 63744, 64255, 65072, 65135, 65280, 65376, 65504, 65510, 127744, 128591, 129280, 129535, 131072, 262141] : List Int)) (inner := [.int .i64 4352, .int .i64 4447, .int .i64 11904, .int .i64 12350, .int .i64 12353, .int .i64 42191, .int .i64 44032, .int .i64 55203, .int .i64 63744, .int .i64 64255, .int .i64 65072, .int .i64 65135, .int .i64 65280, .int .i64 65376, .int .i64 65504, .int .i64 65510, .int .i64 127744, .int .i64 128591, .int .i64 129280, .int .i64 129535, .int .i64 131072, .int .i64 262141]) (ok := fun _ => True) (okp := fun _ => True) ?hr ?hp (fun _ hk => hk) trivial (Below.refl _ _) (Nat.le_refl _) (by simp) ?_; (case hd => rfl); (case hg => rfl); (case hr => first | (go_simp; done) | (go_simp; rfl)); (case hp => exact (Reps.one (show Kd.M (Kd.int .i64) _ _ _ 4352 [.int .i64 4352] from rfl) (Reps.one (show Kd.M (Kd.int .i64) _ _ _ 4447 [.int .i64 4447] from rfl) (Reps.one (show Kd.M (Kd.int .i64) _ _ _ 11904 [.int .i64 11904] from rfl) (Reps.one (show Kd.M (Kd.int .i64) _ _ _ 12350 [.int .i64 12350] from rfl) (Reps.one (show Kd.M (Kd.int .i64) _ _ _ 12353 [.int .i64 12353] from rfl) (Reps.one (show Kd.M (Kd.int .i64) _ _ _ 42191 [.int .i64 42191] from rfl) (Reps.one (show Kd.M (Kd.int .i64) _ _ _ 44032 [.int .i64 44032] from rfl) (Reps.one (show Kd.M (Kd.int .i64) _ _ _ 55203 [.int .i64 55203] from rfl) (Reps.one (show Kd.M (Kd.int .i64) _ _ _ 63744 [.int .i64 63744] from rfl) (Reps.one (show Kd.M (Kd.int .i64) _ _ _ 64255 [.int .i64 64255] from rfl) (Reps.one (show Kd.M (Kd.int .i64) _ _ _ 65072 [.int .i64 65072] from rfl) (Reps.one (show Kd.M (Kd.int .i64) _ _ _ 65135 [.int .i64 65135] from rfl) (Reps.one (show Kd.M (Kd.int .i64) _ _ _ 65280 [.int .i64 65280] from rfl) (Reps.one (show Kd.M (Kd.int .i64) _ _ _ 65376 [.int .i64 65376] from rfl) (Reps.one (show Kd.M (Kd.int .i64) _ _ _ 65504 [.int .i64 65504] from rfl) (Reps.one (show Kd.M (Kd.int .i64) _ _ _ 65510 [.int .i64 65510] from rfl) (Reps.one (show Kd.M (Kd.int .i64) _ _ _ 127744 [.int .i64 127744] from rfl) (Reps.one (show Kd.M (Kd.int .i64) _ _ _ 128591 [.int .i64 128591] from rfl) (Reps.one (show Kd.M (Kd.int .i64) _ _ _ 129280 [.int .i64 129280] from rfl) (Reps.one (show Kd.M (Kd.int .i64) _ _ _ 129535 [.int .i64 129535] from rfl) (Reps.one (show Kd.M (Kd.int .i64) _ _ _ 131072 [.int .i64 131072] from rfl) (Reps.one (show Kd.M (Kd.int .i64) _ _ _ 262141 [.int .i64 262141] from rfl) (Reps.none _ _)))))))))))))))))))))))); intro v236 w30 ho31 hb hg_ hnew_; clear hg_ hnew_; (first | rw [← Ny235.out] at ho31 | (simp only [Int.reduceToNat] at ho31; rw [← Ny235.out] at ho31)); have n0_ := aS (Kd.R_elder' (by (with_reducible repeat (first | apply rA | apply rN | apply rD)); exact HO233.out) (Kd.R_base ho31) hb); have n1_ := aS (Kd.R_lower (Kd.R_new' ho31 (Kd.R_lt (by (with_reducible repeat (first | apply rA | apply rN | apply rD)); exact HO233.out))) (below_size (by repeat (first | (with_reducible first | exact HB.out | apply lA | apply lN | apply lD) | exact HB.out)))); have n2_ := aS (below_step (by repeat (first | (with_reducible first | exact HB.out | apply lA | apply lN | apply lD) | exact HB.out)) hb); clear HO233; clear HB; have HO233 := n0_; have HO237 := n1_; have HB := n2_; clear n0_ n1_ n2_; clear hb ho31; obtain ⟨Ao32, co32, eo32⟩ := Kd.R_slice HO237.out; subst eo32) | ((with_reducible refine gate_callee (f := 126) rfl ?_); refine goesL_ (some 20) rfl rfl Try.func126 (by kernel_rfl) rfl #[.int .i64 a0, .slice Ao32 y235.length co32] rfl (by (try simp only [List.map_toArray, List.map_cons, List.map_nil]); first | done | rfl | (simp only [List.length_drop, List.length_take]; rfl)) ?_; (with_reducible refine (prolepsisref03_in.calls kj1 a0 _ _ y235 false _ ?side1 ?side2 A19.out).mono ?_); (case side1 => repeat (first | exact (Kd.R_reads' HO237.out).2.2 | (with_reducible refine Kd.C_alloc ?_ _) | (with_reducible refine Kd.C_drewN ?_ _) | (with_reducible refine Kd.C_drew ?_))); (case side2 => exact (Kd.R_reads' HO237.out).2.1); rintro e w' ⟨rfl, ⟨nd, rfl⟩⟩; refine ⟨_, rfl, ?_⟩))
            go_ret
            exact ⟨by first | rfl | (simp <;> rfl) | (simp [*] <;> rfl), by repeat (first | (with_reducible first | exact HB.out | apply lA | apply lN | apply lD) | exact HB.out)⟩

def prolepsisref04_Right.f (a0_0 : Int) (a0_1 : Int) (a0_2 : Int) : Option (Bool) := if a0_0 ≤ 31 then (if a0_1 ≤ 16 then (some (decide (a0_2 ≤ 16))) else (some false)) else (some false)
set_option maxHeartbeats 8000000 in
set_option maxRecDepth 100000 in
theorem prolepsisref04_Right.calls (a0_0 : Int) (a0_1 : Int) (a0_2 : Int) (r : Bool) (w : World) (h : prolepsisref04_Right.f a0_0 a0_1 a0_2 = some r) :
    Calls Try.prog 93 #[.agg #[.int .u8 a0_0, .int .u8 a0_1, .int .u8 a0_2]] w fun e w' => e = .returned (.bool r) ∧ Below w.heap.size w w' := by
  have hu30 := Try.underlying30
  have HB := aS (Below.refl w.heap.size w)
  have H : (if a0_0 ≤ 31 then (if a0_1 ≤ 16 then (some (decide (a0_2 ≤ 16))) else (some false)) else (some false)) = some r := h
  clear h
  by_cases c2 : a0_0 ≤ 31
  · rw [if_pos c2] at H
    have c2b0 : decide (a0_0 ≤ 31) = true := decide_eq_true c2
    clear c2
    by_cases c3 : a0_1 ≤ 16
    · rw [if_pos c3] at H
      have c3b0 : decide (a0_1 ≤ 16) = true := decide_eq_true c3
      clear c3
      obtain rfl := Option.some.inj H
      go_enter Try.func93, Try.ntmps93
      go_wp2_with (first | ((with_reducible refine gate_dst (N := 1) rfl ?_); refine box_event ?hg (N := 1) ?hd (cs := #[.int .u8 a0_0, .int .u8 a0_1, .int .u8 a0_2]) (t := 30) ?hr ?_; (case hd => rfl); (case hg => rfl); (case hr => first | (go_simp; done) | (go_simp; rfl)); intro gb239 hg w4 hbox hb; have n0_ := aS (below_step (by repeat (first | (with_reducible first | exact HB.out | apply lA | apply lN | apply lD) | exact HB.out)) hb); have n1_ := aS (hbox); have n2_ := aS ((by rw [hg]; exact (below_size (by repeat (first | (with_reducible first | exact HB.out | apply lA | apply lN | apply lD) | exact HB.out))) : w.heap.size ≤ gb239)); have n3_ := aS ((by rw [hg]; exact (below_size (by repeat (first | (with_reducible first | exact HB.out | apply lA | apply lN | apply lD) | exact HB.out))) : w.heap.size ≤ gb239)); clear HB; have HB := n0_; have BK239 := n1_; have GW239 := n2_; have GE239 := n3_; clear n0_ n1_ n2_ n3_; clear hb hbox hg; obtain ⟨hcz5_0, hcz5_1, hcz5_2, hfz5_0, hfz5_1, hfz5_2⟩ := cel3 BK239.out))
      go_ret
      exact ⟨by first | rfl | (simp <;> rfl) | (simp [*] <;> rfl), by repeat (first | (with_reducible first | exact HB.out | apply lA | apply lN | apply lD | refine below_set ?_ GE239.out) | exact HB.out)⟩
    · rw [if_neg c3] at H
      have c3b0 : decide (a0_1 ≤ 16) = false := decide_eq_false c3
      clear c3
      obtain rfl := Option.some.inj H
      go_enter Try.func93, Try.ntmps93
      go_wp2_with (first | ((with_reducible refine gate_dst (N := 1) rfl ?_); refine box_event ?hg (N := 1) ?hd (cs := #[.int .u8 a0_0, .int .u8 a0_1, .int .u8 a0_2]) (t := 30) ?hr ?_; (case hd => rfl); (case hg => rfl); (case hr => first | (go_simp; done) | (go_simp; rfl)); intro gb239 hg w6 hbox hb; have n0_ := aS (below_step (by repeat (first | (with_reducible first | exact HB.out | apply lA | apply lN | apply lD) | exact HB.out)) hb); have n1_ := aS (hbox); have n2_ := aS ((by rw [hg]; exact (below_size (by repeat (first | (with_reducible first | exact HB.out | apply lA | apply lN | apply lD) | exact HB.out))) : w.heap.size ≤ gb239)); have n3_ := aS ((by rw [hg]; exact (below_size (by repeat (first | (with_reducible first | exact HB.out | apply lA | apply lN | apply lD) | exact HB.out))) : w.heap.size ≤ gb239)); clear HB; have HB := n0_; have BK239 := n1_; have GW239 := n2_; have GE239 := n3_; clear n0_ n1_ n2_ n3_; clear hb hbox hg; obtain ⟨hcz7_0, hcz7_1, hcz7_2, hfz7_0, hfz7_1, hfz7_2⟩ := cel3 BK239.out))
      go_ret
      exact ⟨by first | rfl | (simp <;> rfl) | (simp [*] <;> rfl), by repeat (first | (with_reducible first | exact HB.out | apply lA | apply lN | apply lD | refine below_set ?_ GE239.out) | exact HB.out)⟩
  · rw [if_neg c2] at H
    have c2b0 : decide (a0_0 ≤ 31) = false := decide_eq_false c2
    clear c2
    obtain rfl := Option.some.inj H
    go_enter Try.func93, Try.ntmps93
    go_wp2_with (first | ((with_reducible refine gate_dst (N := 1) rfl ?_); refine box_event ?hg (N := 1) ?hd (cs := #[.int .u8 a0_0, .int .u8 a0_1, .int .u8 a0_2]) (t := 30) ?hr ?_; (case hd => rfl); (case hg => rfl); (case hr => first | (go_simp; done) | (go_simp; rfl)); intro gb239 hg w8 hbox hb; have n0_ := aS (below_step (by repeat (first | (with_reducible first | exact HB.out | apply lA | apply lN | apply lD) | exact HB.out)) hb); have n1_ := aS (hbox); have n2_ := aS ((by rw [hg]; exact (below_size (by repeat (first | (with_reducible first | exact HB.out | apply lA | apply lN | apply lD) | exact HB.out))) : w.heap.size ≤ gb239)); have n3_ := aS ((by rw [hg]; exact (below_size (by repeat (first | (with_reducible first | exact HB.out | apply lA | apply lN | apply lD) | exact HB.out))) : w.heap.size ≤ gb239)); clear HB; have HB := n0_; have BK239 := n1_; have GW239 := n2_; have GE239 := n3_; clear n0_ n1_ n2_ n3_; clear hb hbox hg; obtain ⟨hcz9_0, hcz9_1, hcz9_2, hfz9_0, hfz9_1, hfz9_2⟩ := cel3 BK239.out))
    go_ret
    exact ⟨by first | rfl | (simp <;> rfl) | (simp [*] <;> rfl), by repeat (first | (with_reducible first | exact HB.out | apply lA | apply lN | apply lD | refine below_set ?_ GE239.out) | exact HB.out)⟩

end Go.Proofs.Ytblcmcdifgclcaa.PLineMakes
