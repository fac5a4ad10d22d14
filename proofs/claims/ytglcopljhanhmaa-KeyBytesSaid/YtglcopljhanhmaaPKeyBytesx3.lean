/- What the law KeyBytes reaches: each function with its contract. -/
import Derived.Test.YtglcopljhanhmaaPKeyBytesx0
import Derived.Test.YtglcopljhanhmaaPKeyBytesx2
namespace Go.Proofs.Ytglcopljhanhmaa.PKeyBytes
open Go.RowKit Go.Proofs.YtglcopljhanhmaaW.PrintWords Go.Proofs.YtglcopljhanhmaaW.PrintLast Go.Proofs.YtglcopljhanhmaaW.PrintMore
attribute [local go_sem] isSome_setCell max2_int min2_int max_two min_two max_three min_three max_four min_four   -- for this text's walks alone
set_option linter.unusedVariables false
set_option linter.unusedSimpArgs false

/-! ### prolepsisref03_Of: function 35 -/
def prolepsisref03_Of.j0 : Nat → Int → Bool → Option (Int)
  | 0, _, _ => none
  | k + 1, x0, x14 => if x14 = true then (some (-1)) else ((prolepsisref03_in.f k x0 (([768, 879, 8203, 8207, 8400, 8447, 65024, 65039, 65056, 65071] : List Int))).bind fun t171 => (if t171 = true then (some 0) else ((prolepsisref03_in.f k x0 (([4352, 4447, 11904, 12350, 12353, 42191, 44032, 55203, 63744, 64255, 65072, 65135, 65280, 65376, 65504, 65510, 127744, 128591, 129280, 129535, 131072, 262141] : List Int))).bind fun t175 => (if t175 = true then (some 2) else (some 1)))))
def prolepsisref03_Of.f (k : Nat) (a0 : Int) : Option (Int) := if a0 < 32 then (prolepsisref03_Of.j0 k a0 true) else ((prolepsisref03_in.f k a0 (([127, 159] : List Int))).bind fun t166 => (if t166 = true then (prolepsisref03_Of.j0 k a0 true) else ((prolepsisref02_Scalar.f a0).bind fun t167 => (prolepsisref03_Of.j0 k a0 (!t167)))))
theorem prolepsisref03_Of.mono_l : ∀ k, (∀ y0 y1, LeO (prolepsisref03_Of.j0 k y0 y1) (prolepsisref03_Of.j0 (k + 1) y0 y1))
  | 0 => fun _ _ r h => by simp [prolepsisref03_Of.j0] at h
  | k + 1 => by
    have ih0 := prolepsisref03_Of.mono_l k
    · intro y0 y1
      unfold prolepsisref03_Of.j0
      repeat' first
      | (with_reducible exact ih0 _ _)
      | (with_reducible exact prolepsisref03_in.mono _ _ _)
      | (with_reducible exact LeO.refl _)
      | (with_reducible exact LeO.none _)
      | (with_reducible refine LeO.ite ?_ ?_)
      | (with_reducible refine LeO.bind ?_ (fun _ => ?_))
      | exact ih0 _ _
      | exact prolepsisref03_in.mono _ _ _
      | exact LeO.none _
      | refine LeO.ite ?_ ?_
      | refine LeO.bind ?_ (fun _ => ?_)
theorem prolepsisref03_Of.mono : ∀ a0 k, LeO (prolepsisref03_Of.f k a0) (prolepsisref03_Of.f (k + 1) a0) := by
  intro a0 k
  have ih0 := prolepsisref03_Of.mono_l k
  unfold prolepsisref03_Of.f
  repeat' first
      | (with_reducible exact ih0 _ _)
      | (with_reducible exact prolepsisref03_in.mono _ _ _)
      | (with_reducible exact LeO.refl _)
      | (with_reducible exact LeO.none _)
      | (with_reducible refine LeO.ite ?_ ?_)
      | (with_reducible refine LeO.bind ?_ (fun _ => ?_))
      | exact ih0 _ _
      | exact prolepsisref03_in.mono _ _ _
      | exact LeO.none _
      | refine LeO.ite ?_ ?_
      | refine LeO.bind ?_ (fun _ => ?_)
set_option maxHeartbeats 8000000 in
set_option maxRecDepth 100000 in
theorem prolepsisref03_Of.calls (k : Nat) (a0 : Int) (r : Int) (w : World) (h : prolepsisref03_Of.f k a0 = some r) :
    Calls Try.prog 35 #[.int .i64 a0] w fun e w' => e = .returned (.int .i64 r) ∧ Below w.heap.size w w' := by
  have HB := Aside0.mk (Below.refl w.heap.size w)
  have H : (if a0 < 32 then (prolepsisref03_Of.j0 k a0 true) else ((prolepsisref03_in.f k a0 (([127, 159] : List Int))).bind fun t166 => (if t166 = true then (prolepsisref03_Of.j0 k a0 true) else ((prolepsisref02_Scalar.f a0).bind fun t167 => (prolepsisref03_Of.j0 k a0 (!t167)))))) = some r := h
  clear h
  have HC2 := Aside0.mk H
  clear H
  go_enter Try.func35, Try.ntmps35
  go_upto_region 1 with (fail)
  go_cut [14] (fun v14 wc => ∃ (kq : Nat) (x14_1 : Bool), v14 = .bool x14_1 ∧ Aside0 (prolepsisref03_Of.j0 kq a0 x14_1 = some r) ∧ Aside0 (kq ≤ k) ∧ Aside0 (Below w.heap.size w wc))
  case first =>
    have H := HC2.out
    clear HC2
    by_cases c3 : a0 < 32
    · rw [if_pos c3] at H
      have c3b0 : decide (a0 < 32) = true := decide_eq_true c3
      clear c3
      (first | rw [c3b0] | (simp only [i64_w, i32_w]; rw [c3b0]) | skip)
      have H' := Aside0.mk H
      clear H
      go_wp2
      go_meet
      case rel => exact ⟨_, (true), (by first | rfl | (simp; done) | (simp [*]; done)), H', ⟨by first | omega | exact Nat.le_refl _⟩, ⟨by repeat (first | (with_reducible first | exact HB.out | apply below_alloc | apply pw_below_drewN | apply below_drew1) | exact HB.out)⟩⟩
    · rw [if_neg c3] at H
      have c3b0 : decide (a0 < 32) = false := decide_eq_false c3
      clear c3
      (first | rw [c3b0] | (simp only [i64_w, i32_w]; rw [c3b0]) | skip)
      obtain ⟨y163, hy163⟩ : ∃ y_ : List Int, y_ = (([127, 159] : List Int)) := ⟨_, rfl⟩
      replace H : ((prolepsisref03_in.f k a0 y163).bind fun t166 => (if t166 = true then (prolepsisref03_Of.j0 k a0 true) else ((prolepsisref02_Scalar.f a0).bind fun t167 => (prolepsisref03_Of.j0 k a0 (!t167))))) = some r := by first | (rw [hy163]; with_reducible exact H) | (have H2_ := (Option.bind_some _ _).symm.trans H; rw [hy163]; with_reducible exact H2_) | (have H2_ := (Option.bind_some _ _).symm.trans H; with_reducible exact H2_) | with_reducible exact H | (rw [hy163]; exact H) | exact H
      have Ny163 := Aside0.mk hy163
      clear hy163
      replace H := Option.bind_eq_some_iff.mp H
      obtain ⟨t166, A40, H⟩ := H
      replace H : (if t166 = true then (prolepsisref03_Of.j0 k a0 true) else ((prolepsisref02_Scalar.f a0).bind fun t167 => (prolepsisref03_Of.j0 k a0 (!t167)))) = some r := H
      have A4 := Aside0.mk A40
      clear A40
      by_cases c5 : t166 = true
      · subst c5
        have H1 : (prolepsisref03_Of.j0 k a0 true) = some r := by rw [if_pos rfl] at H; exact H
        clear H
        have H := H1
        clear H1
        have H' := Aside0.mk H
        clear H
        go_wp2_with (first | ((with_reducible refine gate_dst (N := 7) rfl ?_); (try (refine gate_guard (by rfl) ?_; dsimp only)); refine Kd.R_lit (Kd.int .i64) _ 3 ?hg (N := 7) ?hd (xs := ([127, 159] : List Int)) (inner := [.int .i64 127, .int .i64 159]) (ok := fun _ => True) (okp := fun _ => True) ?hr ?hp (fun _ hk => hk) trivial (Below.refl _ _) (Nat.le_refl _) (by simp) ?_; (case hd => rfl); (case hg => rfl); (case hr => first | (go_simp; done) | (go_simp; rfl)); (case hp => exact (Reps.one (show Kd.M (Kd.int .i64) _ _ _ 127 [.int .i64 127] from rfl) (Reps.one (show Kd.M (Kd.int .i64) _ _ _ 159 [.int .i64 159] from rfl) (Reps.none _ _)))); intro v164 w6 ho7 hb hg_ hnew_; clear hg_ hnew_; (first | rw [← Ny163.out] at ho7 | (simp only [Int.reduceToNat] at ho7; rw [← Ny163.out] at ho7)); have n0_ := Aside0.mk (Kd.R_lower ho7 (below_size (by repeat (first | (with_reducible first | exact HB.out | apply below_alloc | apply pw_below_drewN | apply below_drew1) | exact HB.out)))); have n1_ := Aside0.mk (below_step (by repeat (first | (with_reducible first | exact HB.out | apply below_alloc | apply pw_below_drewN | apply below_drew1) | exact HB.out)) hb); clear HB; have HO165 := n0_; have HB := n1_; clear n0_ n1_; clear hb ho7; obtain ⟨Ao8, co8, eo8⟩ := Kd.R_slice HO165.out; subst eo8) | (go_at_call 60; (with_reducible refine (prolepsisref03_in.calls k a0 _ _ y163 true _ ?side1 ?side2 A4.out).mono ?_); (case side1 => repeat (first | exact (Kd.R_reads' HO165.out).2.2 | (with_reducible refine Kd.C_alloc ?_ _) | (with_reducible refine Kd.C_drewN ?_ _) | (with_reducible refine Kd.C_drew ?_))); (case side2 => exact (Kd.R_reads' HO165.out).2.1); rintro e w' ⟨rfl, ⟨nd, rfl⟩⟩))
        go_meet
        case rel => exact ⟨_, (true), (by first | rfl | (simp; done) | (simp [*]; done)), H', ⟨by first | omega | exact Nat.le_refl _⟩, ⟨by repeat (first | (with_reducible first | exact HB.out | apply below_alloc | apply pw_below_drewN | apply below_drew1) | exact HB.out)⟩⟩
      · replace c5 := Bool.eq_false_iff.mpr c5
        subst c5
        have H1 : ((prolepsisref02_Scalar.f a0).bind fun t167 => (prolepsisref03_Of.j0 k a0 (!t167))) = some r := by rw [if_neg (show ¬ (false = true) by decide)] at H; exact H
        clear H
        have H := H1
        clear H1
        replace H := Option.bind_eq_some_iff.mp H
        obtain ⟨t167, A90, H⟩ := H
        replace H : (prolepsisref03_Of.j0 k a0 (!t167)) = some r := H
        have A9 := Aside0.mk A90
        clear A90
        have H' := Aside0.mk H
        clear H
        go_wp2_with (first | ((with_reducible refine gate_dst (N := 7) rfl ?_); (try (refine gate_guard (by rfl) ?_; dsimp only)); refine Kd.R_lit (Kd.int .i64) _ 3 ?hg (N := 7) ?hd (xs := ([127, 159] : List Int)) (inner := [.int .i64 127, .int .i64 159]) (ok := fun _ => True) (okp := fun _ => True) ?hr ?hp (fun _ hk => hk) trivial (Below.refl _ _) (Nat.le_refl _) (by simp) ?_; (case hd => rfl); (case hg => rfl); (case hr => first | (go_simp; done) | (go_simp; rfl)); (case hp => exact (Reps.one (show Kd.M (Kd.int .i64) _ _ _ 127 [.int .i64 127] from rfl) (Reps.one (show Kd.M (Kd.int .i64) _ _ _ 159 [.int .i64 159] from rfl) (Reps.none _ _)))); intro v164 w10 ho11 hb hg_ hnew_; clear hg_ hnew_; (first | rw [← Ny163.out] at ho11 | (simp only [Int.reduceToNat] at ho11; rw [← Ny163.out] at ho11)); have n0_ := Aside0.mk (Kd.R_lower ho11 (below_size (by repeat (first | (with_reducible first | exact HB.out | apply below_alloc | apply pw_below_drewN | apply below_drew1) | exact HB.out)))); have n1_ := Aside0.mk (below_step (by repeat (first | (with_reducible first | exact HB.out | apply below_alloc | apply pw_below_drewN | apply below_drew1) | exact HB.out)) hb); clear HB; have HO165 := n0_; have HB := n1_; clear n0_ n1_; clear hb ho11; obtain ⟨Ao12, co12, eo12⟩ := Kd.R_slice HO165.out; subst eo12) | (go_at_call 60; (with_reducible refine (prolepsisref03_in.calls k a0 _ _ y163 false _ ?side1 ?side2 A4.out).mono ?_); (case side1 => repeat (first | exact (Kd.R_reads' HO165.out).2.2 | (with_reducible refine Kd.C_alloc ?_ _) | (with_reducible refine Kd.C_drewN ?_ _) | (with_reducible refine Kd.C_drew ?_))); (case side2 => exact (Kd.R_reads' HO165.out).2.1); rintro e w' ⟨rfl, ⟨nd, rfl⟩⟩) | (go_at_call 30; (with_reducible refine (prolepsisref02_Scalar.calls a0 t167 _ A9.out).mono ?_); rintro e w' ⟨rfl, ⟨nd, rfl⟩⟩))
        go_meet
        case rel => exact ⟨_, (!t167), (by first | rfl | (simp; done) | (simp [*]; done)), H', ⟨by first | omega | exact Nat.le_refl _⟩, ⟨by repeat (first | (with_reducible first | exact HB.out | apply below_alloc | apply pw_below_drewN | apply below_drew1) | exact HB.out)⟩⟩
  case rest =>
    clear HC2
    try clear p2
    try clear c3
    try clear c3b0
    try clear c5
    obtain ⟨kq, x14_1, rfl, HA, HJ1, HB⟩ := hcut
    cases kq with
    | zero => exact absurd HA.out (by simp [prolepsisref03_Of.j0])
    | succ kj1 =>
      have H := HA.out
      clear HA
      simp only [prolepsisref03_Of.j0] at H
      by_cases c13 : x14_1 = true
      · subst c13
        have H1 : (some (-1)) = some r := by rw [if_pos rfl] at H; exact H
        clear H
        have H := H1
        clear H1
        obtain rfl := Option.some.inj H
        go_wp2
        go_ret
        exact ⟨by first | rfl | (simp [errW_none, errW_some] <;> rfl) | (simp [*, errW_none, errW_some] <;> rfl) | (cases hz_ : t213.toList <;> simp [hz_, errW_none, errW_some]), by repeat (first | (with_reducible first | exact HB.out | apply below_alloc | apply pw_below_drewN | apply below_drew1) | exact HB.out)⟩
      · replace c13 := Bool.eq_false_iff.mpr c13
        subst c13
        have H1 : ((prolepsisref03_in.f kj1 a0 (([768, 879, 8203, 8207, 8400, 8447, 65024, 65039, 65056, 65071] : List Int))).bind fun t171 => (if t171 = true then (some 0) else ((prolepsisref03_in.f kj1 a0 (([4352, 4447, 11904, 12350, 12353, 42191, 44032, 55203, 63744, 64255, 65072, 65135, 65280, 65376, 65504, 65510, 127744, 128591, 129280, 129535, 131072, 262141] : List Int))).bind fun t175 => (if t175 = true then (some 2) else (some 1))))) = some r := by rw [if_neg (show ¬ (false = true) by decide)] at H; exact H
        clear H
        have H := H1
        clear H1
        obtain ⟨y168, hy168⟩ : ∃ y_ : List Int, y_ = (([768, 879, 8203, 8207, 8400, 8447, 65024, 65039, 65056, 65071] : List Int)) := ⟨_, rfl⟩
        replace H : ((prolepsisref03_in.f kj1 a0 y168).bind fun t171 => (if t171 = true then (some 0) else ((prolepsisref03_in.f kj1 a0 (([4352, 4447, 11904, 12350, 12353, 42191, 44032, 55203, 63744, 64255, 65072, 65135, 65280, 65376, 65504, 65510, 127744, 128591, 129280, 129535, 131072, 262141] : List Int))).bind fun t175 => (if t175 = true then (some 2) else (some 1))))) = some r := by first | (rw [hy168]; with_reducible exact H) | (have H2_ := (Option.bind_some _ _).symm.trans H; rw [hy168]; with_reducible exact H2_) | (have H2_ := (Option.bind_some _ _).symm.trans H; with_reducible exact H2_) | with_reducible exact H | (rw [hy168]; exact H) | exact H
        have Ny168 := Aside0.mk hy168
        clear hy168
        replace H := Option.bind_eq_some_iff.mp H
        obtain ⟨t171, A140, H⟩ := H
        replace H : (if t171 = true then (some 0) else ((prolepsisref03_in.f kj1 a0 (([4352, 4447, 11904, 12350, 12353, 42191, 44032, 55203, 63744, 64255, 65072, 65135, 65280, 65376, 65504, 65510, 127744, 128591, 129280, 129535, 131072, 262141] : List Int))).bind fun t175 => (if t175 = true then (some 2) else (some 1)))) = some r := H
        have A14 := Aside0.mk A140
        clear A140
        by_cases c15 : t171 = true
        · subst c15
          have H1 : (some 0) = some r := by rw [if_pos rfl] at H; exact H
          clear H
          have H := H1
          clear H1
          obtain rfl := Option.some.inj H
          go_wp2_with (first | ((with_reducible refine gate_dst (N := 16) rfl ?_); (try (refine gate_guard (by rfl) ?_; dsimp only)); refine Kd.R_lit (Kd.int .i64) _ 3 ?hg (N := 16) ?hd (xs := ([768, 879, 8203, 8207, 8400, 8447, 65024, 65039, 65056, 65071] : List Int)) (inner := [.int .i64 768, .int .i64 879, .int .i64 8203, .int .i64 8207, .int .i64 8400, .int .i64 8447, .int .i64 65024, .int .i64 65039, .int .i64 65056, .int .i64 65071]) (ok := fun _ => True) (okp := fun _ => True) ?hr ?hp (fun _ hk => hk) trivial (Below.refl _ _) (Nat.le_refl _) (by simp) ?_; (case hd => rfl); (case hg => rfl); (case hr => first | (go_simp; done) | (go_simp; rfl)); (case hp => exact (Reps.one (show Kd.M (Kd.int .i64) _ _ _ 768 [.int .i64 768] from rfl) (Reps.one (show Kd.M (Kd.int .i64) _ _ _ 879 [.int .i64 879] from rfl) (Reps.one (show Kd.M (Kd.int .i64) _ _ _ 8203 [.int .i64 8203] from rfl) (Reps.one (show Kd.M (Kd.int .i64) _ _ _ 8207 [.int .i64 8207] from rfl) (Reps.one (show Kd.M (Kd.int .i64) _ _ _ 8400 [.int .i64 8400] from rfl) (Reps.one (show Kd.M (Kd.int .i64) _ _ _ 8447 [.int .i64 8447] from rfl) (Reps.one (show Kd.M (Kd.int .i64) _ _ _ 65024 [.int .i64 65024] from rfl) (Reps.one (show Kd.M (Kd.int .i64) _ _ _ 65039 [.int .i64 65039] from rfl) (Reps.one (show Kd.M (Kd.int .i64) _ _ _ 65056 [.int .i64 65056] from rfl) (Reps.one (show Kd.M (Kd.int .i64) _ _ _ 65071 [.int .i64 65071] from rfl) (Reps.none _ _)))))))))))); intro v169 w16 ho17 hb hg_ hnew_; clear hg_ hnew_; (first | rw [← Ny168.out] at ho17 | (simp only [Int.reduceToNat] at ho17; rw [← Ny168.out] at ho17)); have n0_ := Aside0.mk (Kd.R_lower ho17 (below_size (by repeat (first | (with_reducible first | exact HB.out | apply below_alloc | apply pw_below_drewN | apply below_drew1) | exact HB.out)))); have n1_ := Aside0.mk (below_step (by repeat (first | (with_reducible first | exact HB.out | apply below_alloc | apply pw_below_drewN | apply below_drew1) | exact HB.out)) hb); clear HB; have HO170 := n0_; have HB := n1_; clear n0_ n1_; clear hb ho17; obtain ⟨Ao18, co18, eo18⟩ := Kd.R_slice HO170.out; subst eo18) | ((with_reducible refine gate_callee (f := 60) rfl ?_); refine goesL_ (some 17) rfl rfl Try.func60 (by kernel_rfl) rfl #[.int .i64 a0, .slice Ao18 y168.length co18] rfl (by (try simp only [List.map_toArray, List.map_cons, List.map_nil]); first | done | rfl | (simp only [List.length_drop, List.length_take]; rfl)) ?_; (with_reducible refine (prolepsisref03_in.calls kj1 a0 _ _ y168 true _ ?side1 ?side2 A14.out).mono ?_); (case side1 => repeat (first | exact (Kd.R_reads' HO170.out).2.2 | (with_reducible refine Kd.C_alloc ?_ _) | (with_reducible refine Kd.C_drewN ?_ _) | (with_reducible refine Kd.C_drew ?_))); (case side2 => exact (Kd.R_reads' HO170.out).2.1); rintro e w' ⟨rfl, ⟨nd, rfl⟩⟩; refine ⟨_, rfl, ?_⟩))
          go_ret
          exact ⟨by first | rfl | (simp [errW_none, errW_some] <;> rfl) | (simp [*, errW_none, errW_some] <;> rfl) | (cases hz_ : t213.toList <;> simp [hz_, errW_none, errW_some]), by repeat (first | (with_reducible first | exact HB.out | apply below_alloc | apply pw_below_drewN | apply below_drew1) | exact HB.out)⟩
        · replace c15 := Bool.eq_false_iff.mpr c15
          subst c15
          have H1 : ((prolepsisref03_in.f kj1 a0 (([4352, 4447, 11904, 12350, 12353, 42191, 44032, 55203, 63744, 64255, 65072, 65135, 65280, 65376, 65504, 65510, 127744, 128591, 129280, 129535, 131072, 262141] : List Int))).bind fun t175 => (if t175 = true then (some 2) else (some 1))) = some r := by rw [if_neg (show ¬ (false = true) by decide)] at H; exact H
          clear H
          have H := H1
          clear H1
          obtain ⟨y172, hy172⟩ : ∃ y_ : List Int, y_ = (([4352, 4447, 11904, 12350, 12353, 42191, 44032, 55203, 63744, 64255, 65072, 65135, 65280, 65376, 65504, 65510, 127744, 128591, 129280, 129535, 131072, 262141] : List Int)) := ⟨_, rfl⟩
          replace H : ((prolepsisref03_in.f kj1 a0 y172).bind fun t175 => (if t175 = true then (some 2) else (some 1))) = some r := by first | (rw [hy172]; with_reducible exact H) | (have H2_ := (Option.bind_some _ _).symm.trans H; rw [hy172]; with_reducible exact H2_) | (have H2_ := (Option.bind_some _ _).symm.trans H; with_reducible exact H2_) | with_reducible exact H | (rw [hy172]; exact H) | exact H
          have Ny172 := Aside0.mk hy172
          clear hy172
          replace H := Option.bind_eq_some_iff.mp H
          obtain ⟨t175, A190, H⟩ := H
          replace H : (if t175 = true then (some 2) else (some 1)) = some r := H
          have A19 := Aside0.mk A190
          clear A190
          by_cases c20 : t175 = true
          · subst c20
            have H1 : (some 2) = some r := by rw [if_pos rfl] at H; exact H
            clear H
            have H := H1
            clear H1
            obtain rfl := Option.some.inj H
            go_wp2_with (first | ((with_reducible refine gate_dst (N := 16) rfl ?_); (try (refine gate_guard (by rfl) ?_; dsimp only)); refine Kd.R_lit (Kd.int .i64) _ 3 ?hg (N := 16) ?hd (xs := ([768, 879, 8203, 8207, 8400, 8447, 65024, 65039, 65056, 65071] : List Int)) (inner := [.int .i64 768, .int .i64 879, .int .i64 8203, .int .i64 8207, .int .i64 8400, .int .i64 8447, .int .i64 65024, .int .i64 65039, .int .i64 65056, .int .i64 65071]) (ok := fun _ => True) (okp := fun _ => True) ?hr ?hp (fun _ hk => hk) trivial (Below.refl _ _) (Nat.le_refl _) (by simp) ?_; (case hd => rfl); (case hg => rfl); (case hr => first | (go_simp; done) | (go_simp; rfl)); (case hp => exact (Reps.one (show Kd.M (Kd.int .i64) _ _ _ 768 [.int .i64 768] from rfl) (Reps.one (show Kd.M (Kd.int .i64) _ _ _ 879 [.int .i64 879] from rfl) (Reps.one (show Kd.M (Kd.int .i64) _ _ _ 8203 [.int .i64 8203] from rfl) (Reps.one (show Kd.M (Kd.int .i64) _ _ _ 8207 [.int .i64 8207] from rfl) (Reps.one (show Kd.M (Kd.int .i64) _ _ _ 8400 [.int .i64 8400] from rfl) (Reps.one (show Kd.M (Kd.int .i64) _ _ _ 8447 [.int .i64 8447] from rfl) (Reps.one (show Kd.M (Kd.int .i64) _ _ _ 65024 [.int .i64 65024] from rfl) (Reps.one (show Kd.M (Kd.int .i64) _ _ _ 65039 [.int .i64 65039] from rfl) (Reps.one (show Kd.M (Kd.int .i64) _ _ _ 65056 [.int .i64 65056] from rfl) (Reps.one (show Kd.M (Kd.int .i64) _ _ _ 65071 [.int .i64 65071] from rfl) (Reps.none _ _)))))))))))); intro v169 w21 ho22 hb hg_ hnew_; clear hg_ hnew_; (first | rw [← Ny168.out] at ho22 | (simp only [Int.reduceToNat] at ho22; rw [← Ny168.out] at ho22)); have n0_ := Aside0.mk (Kd.R_lower ho22 (below_size (by repeat (first | (with_reducible first | exact HB.out | apply below_alloc | apply pw_below_drewN | apply below_drew1) | exact HB.out)))); have n1_ := Aside0.mk (below_step (by repeat (first | (with_reducible first | exact HB.out | apply below_alloc | apply pw_below_drewN | apply below_drew1) | exact HB.out)) hb); clear HB; have HO170 := n0_; have HB := n1_; clear n0_ n1_; clear hb ho22; obtain ⟨Ao23, co23, eo23⟩ := Kd.R_slice HO170.out; subst eo23) | ((with_reducible refine gate_callee (f := 60) rfl ?_); refine goesL_ (some 17) rfl rfl Try.func60 (by kernel_rfl) rfl #[.int .i64 a0, .slice Ao23 y168.length co23] rfl (by (try simp only [List.map_toArray, List.map_cons, List.map_nil]); first | done | rfl | (simp only [List.length_drop, List.length_take]; rfl)) ?_; (with_reducible refine (prolepsisref03_in.calls kj1 a0 _ _ y168 false _ ?side1 ?side2 A14.out).mono ?_); (case side1 => repeat (first | exact (Kd.R_reads' HO170.out).2.2 | (with_reducible refine Kd.C_alloc ?_ _) | (with_reducible refine Kd.C_drewN ?_ _) | (with_reducible refine Kd.C_drew ?_))); (case side2 => exact (Kd.R_reads' HO170.out).2.1); rintro e w' ⟨rfl, ⟨nd, rfl⟩⟩; refine ⟨_, rfl, ?_⟩) | ((with_reducible refine gate_dst (N := 19) rfl ?_); (try (refine gate_guard (by rfl) ?_; dsimp only)); refine Kd.R_lit (Kd.int .i64) _ 3 ?hg (N := 19) ?hd (xs := ([4352, 4447, 11904, 12350, 12353, 42191, 44032, 55203, 63744, 64255, 65072, 65135, 65280, 65376, 65504, 65510, 127744, 128591, 129280, 129535, 131072, 262141] : List Int)) (inner := [.int .i64 4352, .int .i64 4447, .int .i64 11904, .int .i64 12350, .int .i64 12353, .int .i64 42191, .int .i64 44032, .int .i64 55203, .int .i64 63744, .int .i64 64255, .int .i64 65072, .int .i64 65135, .int .i64 65280, .int .i64 65376, .int .i64 65504, .int .i64 65510, .int .i64 127744, .int .i64 128591, .int .i64 129280, .int .i64 129535, .int .i64 131072, .int .i64 262141]) (ok := fun _ => True) (okp := fun _ => True) ?hr ?hp (fun _ hk => hk) trivial (Below.refl _ _) (Nat.le_refl _) (by simp) ?_; (case hd => rfl); (case hg => rfl); (case hr => first | (go_simp; done) | (go_simp; rfl)); (case hp => exact (Reps.one (show Kd.M (Kd.int .i64) _ _ _ 4352 [.int .i64 4352] from rfl) (Reps.one (show Kd.M (Kd.int .i64) _ _ _ 4447 [.int .i64 4447] from rfl) (Reps.one (show Kd.M (Kd.int .i64) _ _ _ 11904 [.int .i64 11904] from rfl) (Reps.one (show Kd.M (Kd.int .i64) _ _ _ 12350 [.int .i64 12350] from rfl) (Reps.one (show Kd.M (Kd.int .i64) _ _ _ 12353 [.int .i64 12353] from rfl) (Reps.one (show Kd.M (Kd.int .i64) _ _ _ 42191 [.int .i64 42191] from rfl) (Reps.one (show Kd.M (Kd.int .i64) _ _ _ 44032 [.int .i64 44032] from rfl) (Reps.one (show Kd.M (Kd.int .i64) _ _ _ 55203 [.int .i64 55203] from rfl) (Reps.one (show Kd.M (Kd.int .i64) _ _ _ 63744 [.int .i64 63744] from rfl) (Reps.one (show Kd.M (Kd.int .i64) _ _ _ 64255 [.int .i64 64255] from rfl) (Reps.one (show Kd.M (Kd.int .i64) _ _ _ 65072 [.int .i64 65072] from rfl) (Reps.one (show Kd.M (Kd.int .i64) _ _ _ 65135 [.int .i64 65135] from rfl) (Reps.one (show Kd.M (Kd.int .i64) _ _ _ 65280 [.int .i64 65280] from rfl) (Reps.one (show Kd.M (Kd.int .i64) _ _ _ 65376 [.int .i64 65376] from rfl) (Reps.one (show Kd.M (Kd.int .i64) _ _ _ 65504 [.int .i64 65504] from rfl) (Reps.one (show Kd.M (Kd.int .i64) _ _ _ 65510 [.int .i64 65510] from rfl) (Reps.one (show Kd.M (Kd.int .i64) _ _ _ 127744 [.int .i64 127744] from rfl) (Reps.one (show Kd.M (Kd.int .i64) _ _ _ 128591 [.int .i64 128591] from rfl) (Reps.one (show Kd.M (Kd.int .i64) _ _ _ 129280 [.int .i64 129280] from rfl) (Reps.one (show Kd.M (Kd.int .i64) _ _ _ 129535 [.int .i64 129535] from rfl) (Reps.one (show Kd.M (Kd.int .i64) _ _ _ 131072 [.int .i64 131072] from rfl) (Reps.one (show Kd.M (Kd.int .i64) _ _ _ 262141 [.int .i64 262141] from rfl) (Reps.none _ _)))))))))))))))))))))))); intro v173 w24 ho25 hb hg_ hnew_; clear hg_ hnew_; (first | rw [← Ny172.out] at ho25 | (simp only [Int.reduceToNat] at ho25; rw [← Ny172.out] at ho25)); have n0_ := Aside0.mk (Kd.R_elder' (by (with_reducible repeat (first | apply Kd.R_alloc | apply Kd.R_drewN | apply Kd.R_drew)); exact HO170.out) (Kd.R_base ho25) hb); have n1_ := Aside0.mk (Kd.R_lower (Kd.R_new' ho25 (Kd.R_lt (by (with_reducible repeat (first | apply Kd.R_alloc | apply Kd.R_drewN | apply Kd.R_drew)); exact HO170.out))) (below_size (by repeat (first | (with_reducible first | exact HB.out | apply below_alloc | apply pw_below_drewN | apply below_drew1) | exact HB.out)))); have n2_ := Aside0.mk (below_step (by repeat (first | (with_reducible first | exact HB.out | apply below_alloc | apply pw_below_drewN | apply below_drew1) | exact HB.out)) hb); clear HO170; clear HB; have HO170 := n0_; have HO174 := n1_; have HB := n2_; clear n0_ n1_ n2_; clear hb ho25; obtain ⟨Ao26, co26, eo26⟩ := Kd.R_slice HO174.out; subst eo26) | ((with_reducible refine gate_callee (f := 60) rfl ?_); refine goesL_ (some 20) rfl rfl Try.func60 (by kernel_rfl) rfl #[.int .i64 a0, .slice Ao26 y172.length co26] rfl (by (try simp only [List.map_toArray, List.map_cons, List.map_nil]); first | done | rfl | (simp only [List.length_drop, List.length_take]; rfl)) ?_; (with_reducible refine (prolepsisref03_in.calls kj1 a0 _ _ y172 true _ ?side1 ?side2 A19.out).mono ?_); (case side1 => repeat (first | exact (Kd.R_reads' HO174.out).2.2 | (with_reducible refine Kd.C_alloc ?_ _) | (with_reducible refine Kd.C_drewN ?_ _) | (with_reducible refine Kd.C_drew ?_))); (case side2 => exact (Kd.R_reads' HO174.out).2.1); rintro e w' ⟨rfl, ⟨nd, rfl⟩⟩; refine ⟨_, rfl, ?_⟩))
            go_ret
            exact ⟨by first | rfl | (simp [errW_none, errW_some] <;> rfl) | (simp [*, errW_none, errW_some] <;> rfl) | (cases hz_ : t213.toList <;> simp [hz_, errW_none, errW_some]), by repeat (first | (with_reducible first | exact HB.out | apply below_alloc | apply pw_below_drewN | apply below_drew1) | exact HB.out)⟩
          · replace c20 := Bool.eq_false_iff.mpr c20
            subst c20
            have H1 : (some 1) = some r := by rw [if_neg (show ¬ (false = true) by decide)] at H; exact H
            clear H
            have H := H1
            clear H1
            obtain rfl := Option.some.inj H
            go_wp2_with (first | ((with_reducible refine gate_dst (N := 16) rfl ?_); (try (refine gate_guard (by rfl) ?_; dsimp only)); refine Kd.R_lit (Kd.int .i64) _ 3 ?hg (N := 16) ?hd (xs := ([768, 879, 8203, 8207, 8400, 8447, 65024, 65039, 65056, 65071] : List Int)) (inner := [.int .i64 768, .int .i64 879, .int .i64 8203, .int .i64 8207, .int .i64 8400, .int .i64 8447, .int .i64 65024, .int .i64 65039, .int .i64 65056, .int .i64 65071]) (ok := fun _ => True) (okp := fun _ => True) ?hr ?hp (fun _ hk => hk) trivial (Below.refl _ _) (Nat.le_refl _) (by simp) ?_; (case hd => rfl); (case hg => rfl); (case hr => first | (go_simp; done) | (go_simp; rfl)); (case hp => exact (Reps.one (show Kd.M (Kd.int .i64) _ _ _ 768 [.int .i64 768] from rfl) (Reps.one (show Kd.M (Kd.int .i64) _ _ _ 879 [.int .i64 879] from rfl) (Reps.one (show Kd.M (Kd.int .i64) _ _ _ 8203 [.int .i64 8203] from rfl) (Reps.one (show Kd.M (Kd.int .i64) _ _ _ 8207 [.int .i64 8207] from rfl) (Reps.one (show Kd.M (Kd.int .i64) _ _ _ 8400 [.int .i64 8400] from rfl) (Reps.one (show Kd.M (Kd.int .i64) _ _ _ 8447 [.int .i64 8447] from rfl) (Reps.one (show Kd.M (Kd.int .i64) _ _ _ 65024 [.int .i64 65024] from rfl) (Reps.one (show Kd.M (Kd.int .i64) _ _ _ 65039 [.int .i64 65039] from rfl) (Reps.one (show Kd.M (Kd.int .i64) _ _ _ 65056 [.int .i64 65056] from rfl) (Reps.one (show Kd.M (Kd.int .i64) _ _ _ 65071 [.int .i64 65071] from rfl) (Reps.none _ _)))))))))))); intro v169 w27 ho28 hb hg_ hnew_; clear hg_ hnew_; (first | rw [← Ny168.out] at ho28 | (simp only [Int.reduceToNat] at ho28; rw [← Ny168.out] at ho28)); have n0_ := Aside0.mk (Kd.R_lower ho28 (below_size (by repeat (first | (with_reducible first | exact HB.out | apply below_alloc | apply pw_below_drewN | apply below_drew1) | exact HB.out)))); have n1_ := Aside0.mk (below_step (by repeat (first | (with_reducible first | exact HB.out | apply below_alloc | apply pw_below_drewN | apply below_drew1) | exact HB.out)) hb); clear HB; have HO170 := n0_; have HB := n1_; clear n0_ n1_; clear hb ho28; obtain ⟨Ao29, co29, eo29⟩ := Kd.R_slice HO170.out; subst eo29) | ((with_reducible refine gate_callee (f := 60) rfl ?_); refine goesL_ (some 17) rfl rfl Try.func60 (by kernel_rfl) rfl #[.int .i64 a0, .slice Ao29 y168.length co29] rfl (by (try simp only [List.map_toArray, List.map_cons, List.map_nil]); first | done | rfl | (simp only [List.length_drop, List.length_take]; rfl)) ?_; (with_reducible refine (prolepsisref03_in.calls kj1 a0 _ _ y168 false _ ?side1 ?side2 A14.out).mono ?_); (case side1 => repeat (first | exact (Kd.R_reads' HO170.out).2.2 | (with_reducible refine Kd.C_alloc ?_ _) | (with_reducible refine Kd.C_drewN ?_ _) | (with_reducible refine Kd.C_drew ?_))); (case side2 => exact (Kd.R_reads' HO170.out).2.1); rintro e w' ⟨rfl, ⟨nd, rfl⟩⟩; refine ⟨_, rfl, ?_⟩) | ((with_reducible refine gate_dst (N := 19) rfl ?_); (try (refine gate_guard (by rfl) ?_; dsimp only)); refine Kd.R_lit (Kd.int .i64) _ 3 ?hg (N := 19) ?hd (xs := ([4352, 4447, 11904, 12350, 12353, 42191, 44032, 55203, 63744, 64255, 65072, 65135, 65280, 65376, 65504, 65510, 127744, 128591, 129280, 129535, 131072, 262141] : List Int)) (inner := [.int .i64 4352, .int .i64 4447, .int .i64 11904, .int .i64 12350, .int .i64 12353, .int .i64 42191, .int .i64 44032, .int .i64 55203, .int .i64 63744, .int .i64 64255, .int .i64 65072, .int .i64 65135, .int .i64 65280, .int .i64 65376, .int .i64 65504, .int .i64 65510, .int .i64 127744, .int .i64 128591, .int .i64 129280, .int .i64 129535, .int .i64 131072, .int .i64 262141]) (ok := fun _ => True) (okp := fun _ => True) ?hr ?hp (fun _ hk => hk) trivial (Below.refl _ _) (Nat.le_refl _) (by simp) ?_; (case hd => rfl); (case hg => rfl); (case hr => first | (go_simp; done) | (go_simp; rfl)); (case hp => exact (Reps.one (show Kd.M (Kd.int .i64) _ _ _ 4352 [.int .i64 4352] from rfl) (Reps.one (show Kd.M (Kd.int .i64) _ _ _ 4447 [.int .i64 4447] from rfl) (Reps.one (show Kd.M (Kd.int .i64) _ _ _ 11904 [.int .i64 11904] from rfl) (Reps.one (show Kd.M (Kd.int .i64) _ _ _ 12350 [.int .i64 12350] from rfl) (Reps.one (show Kd.M (Kd.int .i64) _ _ _ 12353 [.int .i64 12353] from rfl) (Reps.one (show Kd.M (Kd.int .i64) _ _ _ 42191 [.int .i64 42191] from rfl) (Reps.one (show Kd.M (Kd.int .i64) _ _ _ 44032 [.int .i64 44032] from rfl) (Reps.one (show Kd.M (Kd.int .i64) _ _ _ 55203 [.int .i64 55203] from rfl) (Reps.one (show Kd.M (Kd.int .i64) _ _ _ 63744 [.int .i64 63744] from rfl) (Reps.one (show Kd.M (Kd.int .i64) _ _ _ 64255 [.int .i64 64255] from rfl) (Reps.one (show Kd.M (Kd.int .i64) _ _ _ 65072 [.int .i64 65072] from rfl) (Reps.one (show Kd.M (Kd.int .i64) _ _ _ 65135 [.int .i64 65135] from rfl) (Reps.one (show Kd.M (Kd.int .i64) _ _ _ 65280 [.int .i64 65280] from rfl) (Reps.one (show Kd.M (Kd.int .i64) _ _ _ 65376 [.int .i64 65376] from rfl) (Reps.one (show Kd.M (Kd.int .i64) _ _ _ 65504 [.int .i64 65504] from rfl) (Reps.one (show Kd.M (Kd.int .i64) _ _ _ 65510 [.int .i64 65510] from rfl) (Reps.one (show Kd.M (Kd.int .i64) _ _ _ 127744 [.int .i64 127744] from rfl) (Reps.one (show Kd.M (Kd.int .i64) _ _ _ 128591 [.int .i64 128591] from rfl) (Reps.one (show Kd.M (Kd.int .i64) _ _ _ 129280 [.int .i64 129280] from rfl) (Reps.one (show Kd.M (Kd.int .i64) _ _ _ 129535 [.int .i64 129535] from rfl) (Reps.one (show Kd.M (Kd.int .i64) _ _ _ 131072 [.int .i64 131072] from rfl) (Reps.one (show Kd.M (Kd.int .i64) _ _ _ 262141 [.int .i64 262141] from rfl) (Reps.none _ _)))))))))))))))))))))))); intro v173 w30 ho31 hb hg_ hnew_; clear hg_ hnew_; (first | rw [← Ny172.out] at ho31 | (simp only [Int.reduceToNat] at ho31; rw [← Ny172.out] at ho31)); have n0_ := Aside0.mk (Kd.R_elder' (by (with_reducible repeat (first | apply Kd.R_alloc | apply Kd.R_drewN | apply Kd.R_drew)); exact HO170.out) (Kd.R_base ho31) hb); have n1_ := Aside0.mk (Kd.R_lower (Kd.R_new' ho31 (Kd.R_lt (by (with_reducible repeat (first | apply Kd.R_alloc | apply Kd.R_drewN | apply Kd.R_drew)); exact HO170.out))) (below_size (by repeat (first | (with_reducible first | exact HB.out | apply below_alloc | apply pw_below_drewN | apply below_drew1) | exact HB.out)))); have n2_ := Aside0.mk (below_step (by repeat (first | (with_reducible first | exact HB.out | apply below_alloc | apply pw_below_drewN | apply below_drew1) | exact HB.out)) hb); clear HO170; clear HB; have HO170 := n0_; have HO174 := n1_; have HB := n2_; clear n0_ n1_ n2_; clear hb ho31; obtain ⟨Ao32, co32, eo32⟩ := Kd.R_slice HO174.out; subst eo32) | ((with_reducible refine gate_callee (f := 60) rfl ?_); refine goesL_ (some 20) rfl rfl Try.func60 (by kernel_rfl) rfl #[.int .i64 a0, .slice Ao32 y172.length co32] rfl (by (try simp only [List.map_toArray, List.map_cons, List.map_nil]); first | done | rfl | (simp only [List.length_drop, List.length_take]; rfl)) ?_; (with_reducible refine (prolepsisref03_in.calls kj1 a0 _ _ y172 false _ ?side1 ?side2 A19.out).mono ?_); (case side1 => repeat (first | exact (Kd.R_reads' HO174.out).2.2 | (with_reducible refine Kd.C_alloc ?_ _) | (with_reducible refine Kd.C_drewN ?_ _) | (with_reducible refine Kd.C_drew ?_))); (case side2 => exact (Kd.R_reads' HO174.out).2.1); rintro e w' ⟨rfl, ⟨nd, rfl⟩⟩; refine ⟨_, rfl, ?_⟩))
            go_ret
            exact ⟨by first | rfl | (simp [errW_none, errW_some] <;> rfl) | (simp [*, errW_none, errW_some] <;> rfl) | (cases hz_ : t213.toList <;> simp [hz_, errW_none, errW_some]), by repeat (first | (with_reducible first | exact HB.out | apply below_alloc | apply pw_below_drewN | apply below_drew1) | exact HB.out)⟩

/-! ### prolepsisref02_Bytes: function 59 -/
def prolepsisref02_Bytes.j0 : Nat → Int → Option (List Int)
  | 0, _ => none
  | k + 1, x0 => if x0 < 128 then (some (([(x0) % 256] : List Int))) else (if x0 < 2048 then (some (([(wrap64 (192 + (wrap64 (Int.tdiv x0 64)))) % 256, (wrap64 (128 + (Int.tmod x0 64))) % 256] : List Int))) else (if x0 < 65536 then (some (([(wrap64 (224 + (wrap64 (Int.tdiv x0 4096)))) % 256, (wrap64 (128 + (Int.tmod (wrap64 (Int.tdiv x0 64)) 64))) % 256, (wrap64 (128 + (Int.tmod x0 64))) % 256] : List Int))) else (some (([(wrap64 (240 + (wrap64 (Int.tdiv x0 262144)))) % 256, (wrap64 (128 + (Int.tmod (wrap64 (Int.tdiv x0 4096)) 64))) % 256, (wrap64 (128 + (Int.tmod (wrap64 (Int.tdiv x0 64)) 64))) % 256, (wrap64 (128 + (Int.tmod x0 64))) % 256] : List Int)))))
def prolepsisref02_Bytes.f (k : Nat) (a0 : Int) : Option (List Int) := (prolepsisref02_Scalar.f a0).bind fun t176 => (if t176 = true then (prolepsisref02_Bytes.j0 k a0) else (prolepsisref02_Bytes.j0 k 65533))
theorem prolepsisref02_Bytes.mono_l : ∀ k, (∀ y0, LeO (prolepsisref02_Bytes.j0 k y0) (prolepsisref02_Bytes.j0 (k + 1) y0))
  | 0 => fun _ r h => by simp [prolepsisref02_Bytes.j0] at h
  | k + 1 => by
    have ih0 := prolepsisref02_Bytes.mono_l k
    · intro y0
      unfold prolepsisref02_Bytes.j0
      repeat' first
      | (with_reducible exact ih0 _)
      | (with_reducible exact LeO.refl _)
      | (with_reducible exact LeO.none _)
      | (with_reducible refine LeO.ite ?_ ?_)
      | (with_reducible refine LeO.bind ?_ (fun _ => ?_))
      | exact ih0 _
      | exact LeO.none _
      | refine LeO.ite ?_ ?_
      | refine LeO.bind ?_ (fun _ => ?_)
theorem prolepsisref02_Bytes.mono : ∀ a0 k, LeO (prolepsisref02_Bytes.f k a0) (prolepsisref02_Bytes.f (k + 1) a0) := by
  intro a0 k
  have ih0 := prolepsisref02_Bytes.mono_l k
  unfold prolepsisref02_Bytes.f
  repeat' first
      | (with_reducible exact ih0 _)
      | (with_reducible exact LeO.refl _)
      | (with_reducible exact LeO.none _)
      | (with_reducible refine LeO.ite ?_ ?_)
      | (with_reducible refine LeO.bind ?_ (fun _ => ?_))
      | exact ih0 _
      | exact LeO.none _
      | refine LeO.ite ?_ ?_
      | refine LeO.bind ?_ (fun _ => ?_)
set_option maxHeartbeats 8000000 in
set_option maxRecDepth 100000 in
theorem prolepsisref02_Bytes.calls (k : Nat) (a0 : Int) (r : List Int) (w : World) (h : prolepsisref02_Bytes.f k a0 = some r) :
    Calls Try.prog 59 #[.int .i64 a0] w fun e w' => ∃ v0_ : Value, e = .returned (v0_) ∧ Kd.R (Kd.int .u8) 5 w' w.heap.size (fun _ => True) v0_ r ∧ Below w.heap.size w w' := by
  have HB := Aside0.mk (Below.refl w.heap.size w)
  have H : ((prolepsisref02_Scalar.f a0).bind fun t176 => (if t176 = true then (prolepsisref02_Bytes.j0 k a0) else (prolepsisref02_Bytes.j0 k 65533))) = some r := h
  clear h
  replace H := Option.bind_eq_some_iff.mp H
  obtain ⟨t176, A20, H⟩ := H
  replace H : (if t176 = true then (prolepsisref02_Bytes.j0 k a0) else (prolepsisref02_Bytes.j0 k 65533)) = some r := H
  have A2 := Aside0.mk A20
  clear A20
  have HC3 := Aside0.mk H
  clear H
  go_enter Try.func59, Try.ntmps59
  go_upto_if 5 with (first | ((with_reducible refine gate_callee (f := 30) rfl ?_); refine goesL_ (some 4) rfl rfl Try.func30 (by kernel_rfl) rfl #[.int .i64 a0] rfl (by (try simp only [List.map_toArray, List.map_cons, List.map_nil]); first | done | rfl | (simp only [List.length_drop, List.length_take]; rfl)) ?_; (with_reducible refine (prolepsisref02_Scalar.calls a0 t176 _ A2.out).mono ?_); rintro e w' ⟨rfl, ⟨nd, rfl⟩⟩; refine ⟨_, rfl, ?_⟩))
  (try simp only [Act.put, List.setIfInBounds_toArray, List.set_cons_zero, List.set_cons_succ])
  go_cut [0] (fun v0 wc => ∃ (kq : Nat) (x0_2 : Int), v0 = .int .i64 x0_2 ∧ Aside0 (prolepsisref02_Bytes.j0 kq x0_2 = some r) ∧ Aside0 (kq ≤ k) ∧ Aside0 (Below w.heap.size w wc))
  case first =>
    have H := HC3.out
    clear HC3
    by_cases c4 : t176 = true
    · subst c4
      have H1 : (prolepsisref02_Bytes.j0 k a0) = some r := by rw [if_pos rfl] at H; exact H
      clear H
      have H := H1
      clear H1
      have H' := Aside0.mk H
      clear H
      go_wp2
      go_meet
      case rel => exact ⟨_, (a0), (by first | rfl | (simp; done) | (simp [*]; done)), H', ⟨by first | omega | exact Nat.le_refl _⟩, ⟨by repeat (first | (with_reducible first | exact HB.out | apply below_alloc | apply pw_below_drewN | apply below_drew1) | exact HB.out)⟩⟩
    · replace c4 := Bool.eq_false_iff.mpr c4
      subst c4
      have H1 : (prolepsisref02_Bytes.j0 k 65533) = some r := by rw [if_neg (show ¬ (false = true) by decide)] at H; exact H
      clear H
      have H := H1
      clear H1
      have H' := Aside0.mk H
      clear H
      go_wp2
      go_meet
      case rel => exact ⟨_, (65533), (by first | rfl | (simp; done) | (simp [*]; done)), H', ⟨by first | omega | exact Nat.le_refl _⟩, ⟨by repeat (first | (with_reducible first | exact HB.out | apply below_alloc | apply pw_below_drewN | apply below_drew1) | exact HB.out)⟩⟩
  case rest =>
    clear HC3
    try clear p2
    try clear c3
    try clear c4
    obtain ⟨kq, x0_2, rfl, HA, HJ2, HB⟩ := hcut
    cases kq with
    | zero => exact absurd HA.out (by simp [prolepsisref02_Bytes.j0])
    | succ kj2 =>
      have H := HA.out
      clear HA
      simp only [prolepsisref02_Bytes.j0] at H
      by_cases c5 : x0_2 < 128
      · rw [if_pos c5] at H
        have c5b0 : decide (x0_2 < 128) = true := decide_eq_true c5
        clear c5
        obtain ⟨y177, hy177⟩ : ∃ y_ : List Int, y_ = (([(x0_2) % 256] : List Int)) := ⟨_, rfl⟩
        replace H : (some y177) = some r := by first | (rw [hy177]; with_reducible exact H) | (have H2_ := (Option.bind_some _ _).symm.trans H; rw [hy177]; with_reducible exact H2_) | (have H2_ := (Option.bind_some _ _).symm.trans H; with_reducible exact H2_) | with_reducible exact H | (rw [hy177]; exact H) | exact H
        have Ny177 := Aside0.mk hy177
        clear hy177
        obtain rfl := Option.some.inj H
        go_wp2_with (first | ((with_reducible refine gate_dst (N := 10) rfl ?_); refine Kd.R_lit (Kd.int .u8) _ 5 ?hg (N := 10) ?hd (xs := ([(x0_2) % 256] : List Int)) (inner := [.int .u8 ((x0_2) % 256)]) (ok := fun _ => True) (okp := fun _ => True) ?hr ?hp (fun _ hk => hk) trivial (Below.refl _ _) (Nat.le_refl _) (by simp) ?_; (case hd => rfl); (case hg => rfl); (case hr => first | (go_simp; done) | (go_simp; rfl)); (case hp => exact (Reps.one (show Kd.M (Kd.int .u8) _ _ _ ((x0_2) % 256) [.int .u8 ((x0_2) % 256)] from rfl) (Reps.none _ _))); intro v178 w6 ho7 hb hg_ hnew_; clear hg_ hnew_; (first | rw [← Ny177.out] at ho7 | (simp only [Int.reduceToNat] at ho7; rw [← Ny177.out] at ho7)); have n0_ := Aside0.mk (Kd.R_lower ho7 (below_size (by repeat (first | (with_reducible first | exact HB.out | apply below_alloc | apply pw_below_drewN | apply below_drew1) | exact HB.out)))); have n1_ := Aside0.mk (below_step (by repeat (first | (with_reducible first | exact HB.out | apply below_alloc | apply pw_below_drewN | apply below_drew1) | exact HB.out)) hb); clear HB; have HO179 := n0_; have HB := n1_; clear n0_ n1_; clear hb ho7))
        go_ret
        exact ⟨_, by first | rfl | (simp [errW_none, errW_some] <;> rfl) | (simp [*, errW_none, errW_some] <;> rfl) | (cases hz_ : t213.toList <;> simp [hz_, errW_none, errW_some]), by (with_reducible repeat (first | apply Kd.R_alloc | apply Kd.R_drewN | apply Kd.R_drew)); exact HO179.out, by repeat (first | (with_reducible first | exact HB.out | apply below_alloc | apply pw_below_drewN | apply below_drew1) | exact HB.out)⟩
      · rw [if_neg c5] at H
        have c5b0 : decide (x0_2 < 128) = false := decide_eq_false c5
        clear c5
        by_cases c8 : x0_2 < 2048
        · rw [if_pos c8] at H
          have c8b0 : decide (x0_2 < 2048) = true := decide_eq_true c8
          clear c8
          obtain ⟨y180, hy180⟩ : ∃ y_ : List Int, y_ = (([(wrap64 (192 + (wrap64 (Int.tdiv x0_2 64)))) % 256, (wrap64 (128 + (Int.tmod x0_2 64))) % 256] : List Int)) := ⟨_, rfl⟩
          replace H : (some y180) = some r := by first | (rw [hy180]; with_reducible exact H) | (have H2_ := (Option.bind_some _ _).symm.trans H; rw [hy180]; with_reducible exact H2_) | (have H2_ := (Option.bind_some _ _).symm.trans H; with_reducible exact H2_) | with_reducible exact H | (rw [hy180]; exact H) | exact H
          have Ny180 := Aside0.mk hy180
          clear hy180
          obtain rfl := Option.some.inj H
          go_wp2_with (first | ((with_reducible refine gate_dst (N := 21) rfl ?_); refine Kd.R_lit (Kd.int .u8) _ 5 ?hg (N := 21) ?hd (xs := ([(wrap64 (192 + (wrap64 (Int.tdiv x0_2 64)))) % 256, (wrap64 (128 + (Int.tmod x0_2 64))) % 256] : List Int)) (inner := [.int .u8 ((wrap64 (192 + (wrap64 (Int.tdiv x0_2 64)))) % 256), .int .u8 ((wrap64 (128 + (Int.tmod x0_2 64))) % 256)]) (ok := fun _ => True) (okp := fun _ => True) ?hr ?hp (fun _ hk => hk) trivial (Below.refl _ _) (Nat.le_refl _) (by simp) ?_; (case hd => rfl); (case hg => rfl); (case hr => first | (go_simp; done) | (go_simp; rfl)); (case hp => exact (Reps.one (show Kd.M (Kd.int .u8) _ _ _ ((wrap64 (192 + (wrap64 (Int.tdiv x0_2 64)))) % 256) [.int .u8 ((wrap64 (192 + (wrap64 (Int.tdiv x0_2 64)))) % 256)] from rfl) (Reps.one (show Kd.M (Kd.int .u8) _ _ _ ((wrap64 (128 + (Int.tmod x0_2 64))) % 256) [.int .u8 ((wrap64 (128 + (Int.tmod x0_2 64))) % 256)] from rfl) (Reps.none _ _)))); intro v181 w9 ho10 hb hg_ hnew_; clear hg_ hnew_; (first | rw [← Ny180.out] at ho10 | (simp only [Int.reduceToNat] at ho10; rw [← Ny180.out] at ho10)); have n0_ := Aside0.mk (Kd.R_lower ho10 (below_size (by repeat (first | (with_reducible first | exact HB.out | apply below_alloc | apply pw_below_drewN | apply below_drew1) | exact HB.out)))); have n1_ := Aside0.mk (below_step (by repeat (first | (with_reducible first | exact HB.out | apply below_alloc | apply pw_below_drewN | apply below_drew1) | exact HB.out)) hb); clear HB; have HO182 := n0_; have HB := n1_; clear n0_ n1_; clear hb ho10))
          go_ret
          exact ⟨_, by first | rfl | (simp [errW_none, errW_some] <;> rfl) | (simp [*, errW_none, errW_some] <;> rfl) | (cases hz_ : t213.toList <;> simp [hz_, errW_none, errW_some]), by (with_reducible repeat (first | apply Kd.R_alloc | apply Kd.R_drewN | apply Kd.R_drew)); exact HO182.out, by repeat (first | (with_reducible first | exact HB.out | apply below_alloc | apply pw_below_drewN | apply below_drew1) | exact HB.out)⟩
        · rw [if_neg c8] at H
          have c8b0 : decide (x0_2 < 2048) = false := decide_eq_false c8
          clear c8
          by_cases c11 : x0_2 < 65536
          · rw [if_pos c11] at H
            have c11b0 : decide (x0_2 < 65536) = true := decide_eq_true c11
            clear c11
            obtain ⟨y183, hy183⟩ : ∃ y_ : List Int, y_ = (([(wrap64 (224 + (wrap64 (Int.tdiv x0_2 4096)))) % 256, (wrap64 (128 + (Int.tmod (wrap64 (Int.tdiv x0_2 64)) 64))) % 256, (wrap64 (128 + (Int.tmod x0_2 64))) % 256] : List Int)) := ⟨_, rfl⟩
            replace H : (some y183) = some r := by first | (rw [hy183]; with_reducible exact H) | (have H2_ := (Option.bind_some _ _).symm.trans H; rw [hy183]; with_reducible exact H2_) | (have H2_ := (Option.bind_some _ _).symm.trans H; with_reducible exact H2_) | with_reducible exact H | (rw [hy183]; exact H) | exact H
            have Ny183 := Aside0.mk hy183
            clear hy183
            obtain rfl := Option.some.inj H
            go_wp2_with (first | ((with_reducible refine gate_dst (N := 37) rfl ?_); refine Kd.R_lit (Kd.int .u8) _ 5 ?hg (N := 37) ?hd (xs := ([(wrap64 (224 + (wrap64 (Int.tdiv x0_2 4096)))) % 256, (wrap64 (128 + (Int.tmod (wrap64 (Int.tdiv x0_2 64)) 64))) % 256, (wrap64 (128 + (Int.tmod x0_2 64))) % 256] : List Int)) (inner := [.int .u8 ((wrap64 (224 + (wrap64 (Int.tdiv x0_2 4096)))) % 256), .int .u8 ((wrap64 (128 + (Int.tmod (wrap64 (Int.tdiv x0_2 64)) 64))) % 256), .int .u8 ((wrap64 (128 + (Int.tmod x0_2 64))) % 256)]) (ok := fun _ => True) (okp := fun _ => True) ?hr ?hp (fun _ hk => hk) trivial (Below.refl _ _) (Nat.le_refl _) (by simp) ?_; (case hd => rfl); (case hg => rfl); (case hr => first | (go_simp; done) | (go_simp; rfl)); (case hp => exact (Reps.one (show Kd.M (Kd.int .u8) _ _ _ ((wrap64 (224 + (wrap64 (Int.tdiv x0_2 4096)))) % 256) [.int .u8 ((wrap64 (224 + (wrap64 (Int.tdiv x0_2 4096)))) % 256)] from rfl) (Reps.one (show Kd.M (Kd.int .u8) _ _ _ ((wrap64 (128 + (Int.tmod (wrap64 (Int.tdiv x0_2 64)) 64))) % 256) [.int .u8 ((wrap64 (128 + (Int.tmod (wrap64 (Int.tdiv x0_2 64)) 64))) % 256)] from rfl) (Reps.one (show Kd.M (Kd.int .u8) _ _ _ ((wrap64 (128 + (Int.tmod x0_2 64))) % 256) [.int .u8 ((wrap64 (128 + (Int.tmod x0_2 64))) % 256)] from rfl) (Reps.none _ _))))); intro v184 w12 ho13 hb hg_ hnew_; clear hg_ hnew_; (first | rw [← Ny183.out] at ho13 | (simp only [Int.reduceToNat] at ho13; rw [← Ny183.out] at ho13)); have n0_ := Aside0.mk (Kd.R_lower ho13 (below_size (by repeat (first | (with_reducible first | exact HB.out | apply below_alloc | apply pw_below_drewN | apply below_drew1) | exact HB.out)))); have n1_ := Aside0.mk (below_step (by repeat (first | (with_reducible first | exact HB.out | apply below_alloc | apply pw_below_drewN | apply below_drew1) | exact HB.out)) hb); clear HB; have HO185 := n0_; have HB := n1_; clear n0_ n1_; clear hb ho13))
            go_ret
            exact ⟨_, by first | rfl | (simp [errW_none, errW_some] <;> rfl) | (simp [*, errW_none, errW_some] <;> rfl) | (cases hz_ : t213.toList <;> simp [hz_, errW_none, errW_some]), by (with_reducible repeat (first | apply Kd.R_alloc | apply Kd.R_drewN | apply Kd.R_drew)); exact HO185.out, by repeat (first | (with_reducible first | exact HB.out | apply below_alloc | apply pw_below_drewN | apply below_drew1) | exact HB.out)⟩
          · rw [if_neg c11] at H
            have c11b0 : decide (x0_2 < 65536) = false := decide_eq_false c11
            clear c11
            obtain ⟨y186, hy186⟩ : ∃ y_ : List Int, y_ = (([(wrap64 (240 + (wrap64 (Int.tdiv x0_2 262144)))) % 256, (wrap64 (128 + (Int.tmod (wrap64 (Int.tdiv x0_2 4096)) 64))) % 256, (wrap64 (128 + (Int.tmod (wrap64 (Int.tdiv x0_2 64)) 64))) % 256, (wrap64 (128 + (Int.tmod x0_2 64))) % 256] : List Int)) := ⟨_, rfl⟩
            replace H : (some y186) = some r := by first | (rw [hy186]; with_reducible exact H) | (have H2_ := (Option.bind_some _ _).symm.trans H; rw [hy186]; with_reducible exact H2_) | (have H2_ := (Option.bind_some _ _).symm.trans H; with_reducible exact H2_) | with_reducible exact H | (rw [hy186]; exact H) | exact H
            have Ny186 := Aside0.mk hy186
            clear hy186
            obtain rfl := Option.some.inj H
            go_wp2_with (first | ((with_reducible refine gate_dst (N := 56) rfl ?_); refine Kd.R_lit (Kd.int .u8) _ 5 ?hg (N := 56) ?hd (xs := ([(wrap64 (240 + (wrap64 (Int.tdiv x0_2 262144)))) % 256, (wrap64 (128 + (Int.tmod (wrap64 (Int.tdiv x0_2 4096)) 64))) % 256, (wrap64 (128 + (Int.tmod (wrap64 (Int.tdiv x0_2 64)) 64))) % 256, (wrap64 (128 + (Int.tmod x0_2 64))) % 256] : List Int)) (inner := [.int .u8 ((wrap64 (240 + (wrap64 (Int.tdiv x0_2 262144)))) % 256), .int .u8 ((wrap64 (128 + (Int.tmod (wrap64 (Int.tdiv x0_2 4096)) 64))) % 256), .int .u8 ((wrap64 (128 + (Int.tmod (wrap64 (Int.tdiv x0_2 64)) 64))) % 256), .int .u8 ((wrap64 (128 + (Int.tmod x0_2 64))) % 256)]) (ok := fun _ => True) (okp := fun _ => True) ?hr ?hp (fun _ hk => hk) trivial (Below.refl _ _) (Nat.le_refl _) (by simp) ?_; (case hd => rfl); (case hg => rfl); (case hr => first | (go_simp; done) | (go_simp; rfl)); (case hp => exact (Reps.one (show Kd.M (Kd.int .u8) _ _ _ ((wrap64 (240 + (wrap64 (Int.tdiv x0_2 262144)))) % 256) [.int .u8 ((wrap64 (240 + (wrap64 (Int.tdiv x0_2 262144)))) % 256)] from rfl) (Reps.one (show Kd.M (Kd.int .u8) _ _ _ ((wrap64 (128 + (Int.tmod (wrap64 (Int.tdiv x0_2 4096)) 64))) % 256) [.int .u8 ((wrap64 (128 + (Int.tmod (wrap64 (Int.tdiv x0_2 4096)) 64))) % 256)] from rfl) (Reps.one (show Kd.M (Kd.int .u8) _ _ _ ((wrap64 (128 + (Int.tmod (wrap64 (Int.tdiv x0_2 64)) 64))) % 256) [.int .u8 ((wrap64 (128 + (Int.tmod (wrap64 (Int.tdiv x0_2 64)) 64))) % 256)] from rfl) (Reps.one (show Kd.M (Kd.int .u8) _ _ _ ((wrap64 (128 + (Int.tmod x0_2 64))) % 256) [.int .u8 ((wrap64 (128 + (Int.tmod x0_2 64))) % 256)] from rfl) (Reps.none _ _)))))); intro v187 w14 ho15 hb hg_ hnew_; clear hg_ hnew_; (first | rw [← Ny186.out] at ho15 | (simp only [Int.reduceToNat] at ho15; rw [← Ny186.out] at ho15)); have n0_ := Aside0.mk (Kd.R_lower ho15 (below_size (by repeat (first | (with_reducible first | exact HB.out | apply below_alloc | apply pw_below_drewN | apply below_drew1) | exact HB.out)))); have n1_ := Aside0.mk (below_step (by repeat (first | (with_reducible first | exact HB.out | apply below_alloc | apply pw_below_drewN | apply below_drew1) | exact HB.out)) hb); clear HB; have HO188 := n0_; have HB := n1_; clear n0_ n1_; clear hb ho15))
            go_ret
            exact ⟨_, by first | rfl | (simp [errW_none, errW_some] <;> rfl) | (simp [*, errW_none, errW_some] <;> rfl) | (cases hz_ : t213.toList <;> simp [hz_, errW_none, errW_some]), by (with_reducible repeat (first | apply Kd.R_alloc | apply Kd.R_drewN | apply Kd.R_drew)); exact HO188.out, by repeat (first | (with_reducible first | exact HB.out | apply below_alloc | apply pw_below_drewN | apply below_drew1) | exact HB.out)⟩

/-! ### prolepsisref22_text: function 65 -/
def prolepsisref22_text.f (a0 : Int) : Option (ByteArray) := if a0 = 2 then (some (strOfNums (([8] : List Int)))) else (if a0 = 3 then (some (strOfNums (([27, 91, 68] : List Int)))) else (if a0 = 4 then (some (strOfNums (([27, 91, 67] : List Int)))) else (if a0 = 5 then (some (strOfNums (([27, 91, 65] : List Int)))) else (if a0 = 6 then (some (strOfNums (([27, 91, 66] : List Int)))) else (if a0 = 7 then (some (strOfNums (([13] : List Int)))) else (some (⟨#[]⟩ : ByteArray)))))))
set_option maxHeartbeats 8000000 in
set_option maxRecDepth 100000 in
theorem prolepsisref22_text.calls (a0 : Int) (r : ByteArray) (w : World) (h : prolepsisref22_text.f a0 = some r) :
    Calls Try.prog 65 #[.int .i64 a0] w fun e w' => e = .returned (.string r) ∧ Below w.heap.size w w' := by
  have HB := Aside0.mk (Below.refl w.heap.size w)
  have H : (if a0 = 2 then (some (strOfNums (([8] : List Int)))) else (if a0 = 3 then (some (strOfNums (([27, 91, 68] : List Int)))) else (if a0 = 4 then (some (strOfNums (([27, 91, 67] : List Int)))) else (if a0 = 5 then (some (strOfNums (([27, 91, 65] : List Int)))) else (if a0 = 6 then (some (strOfNums (([27, 91, 66] : List Int)))) else (if a0 = 7 then (some (strOfNums (([13] : List Int)))) else (some (⟨#[]⟩ : ByteArray)))))))) = some r := h
  clear h
  by_cases c2 : a0 = 2
  · rw [if_pos c2] at H
    have c2b0 : (a0 == 2) = true := beq_iff_eq.mpr c2
    have c2b1 : (a0 != 2) = false := bne_eq_false_iff_eq.mpr c2
    clear c2
    obtain ⟨y189, hy189⟩ : ∃ y_ : List Int, y_ = (([8] : List Int)) := ⟨_, rfl⟩
    replace H : (some (strOfNums y189)) = some r := by first | (rw [hy189]; with_reducible exact H) | (have H2_ := (Option.bind_some _ _).symm.trans H; rw [hy189]; with_reducible exact H2_) | (have H2_ := (Option.bind_some _ _).symm.trans H; with_reducible exact H2_) | with_reducible exact H | (rw [hy189]; exact H) | exact H
    have Ny189 := Aside0.mk hy189
    clear hy189
    obtain rfl := Option.some.inj H
    go_enter Try.func65, Try.ntmps65
    go_wp2_with (first | ((with_reducible refine gate_dst (N := 6) rfl ?_); refine Kd.R_lit (Kd.int .u8) _ 5 ?hg (N := 6) ?hd (xs := ([8] : List Int)) (inner := [.int .u8 8]) (ok := fun _ => True) (okp := fun _ => True) ?hr ?hp (fun _ hk => hk) trivial (Below.refl _ _) (Nat.le_refl _) (by simp) ?_; (case hd => rfl); (case hg => rfl); (case hr => first | (go_simp; done) | (go_simp; rfl)); (case hp => exact (Reps.one (show Kd.M (Kd.int .u8) _ _ _ 8 [.int .u8 8] from rfl) (Reps.none _ _))); intro v190 w3 ho4 hb hg_ hnew_; clear hg_ hnew_; (first | rw [← Ny189.out] at ho4 | (simp only [Int.reduceToNat] at ho4; rw [← Ny189.out] at ho4)); have n0_ := Aside0.mk (Kd.R_lower ho4 (below_size (by repeat (first | (with_reducible first | exact HB.out | apply below_alloc | apply pw_below_drewN | apply below_drew1) | exact HB.out)))); have n1_ := Aside0.mk (below_step (by repeat (first | (with_reducible first | exact HB.out | apply below_alloc | apply pw_below_drewN | apply below_drew1) | exact HB.out)) hb); clear HB; have HO191 := n0_; have HB := n1_; clear n0_ n1_; clear hb ho4; have hcv5 := own_string (P := Try.prog) Try.underlying22 Try.underlying5 Try.underlying9 (Kd.own_of_R HO191.out)))
    go_ret
    exact ⟨by first | rfl | (simp [errW_none, errW_some] <;> rfl) | (simp [*, errW_none, errW_some] <;> rfl) | (cases hz_ : t213.toList <;> simp [hz_, errW_none, errW_some]), by repeat (first | (with_reducible first | exact HB.out | apply below_alloc | apply pw_below_drewN | apply below_drew1) | exact HB.out)⟩
  · rw [if_neg c2] at H
    have c2b0 : (a0 == 2) = false := beq_eq_false_iff_ne.mpr c2
    have c2b1 : (a0 != 2) = true := bne_iff_ne.mpr c2
    by_cases c6 : a0 = 3
    · rw [if_pos c6] at H
      have c6b0 : (a0 == 3) = true := beq_iff_eq.mpr c6
      have c6b1 : (a0 != 3) = false := bne_eq_false_iff_eq.mpr c6
      clear c6
      obtain ⟨y192, hy192⟩ : ∃ y_ : List Int, y_ = (([27, 91, 68] : List Int)) := ⟨_, rfl⟩
      replace H : (some (strOfNums y192)) = some r := by first | (rw [hy192]; with_reducible exact H) | (have H2_ := (Option.bind_some _ _).symm.trans H; rw [hy192]; with_reducible exact H2_) | (have H2_ := (Option.bind_some _ _).symm.trans H; with_reducible exact H2_) | with_reducible exact H | (rw [hy192]; exact H) | exact H
      have Ny192 := Aside0.mk hy192
      clear hy192
      obtain rfl := Option.some.inj H
      go_enter Try.func65, Try.ntmps65
      go_wp2_with (first | ((with_reducible refine gate_dst (N := 10) rfl ?_); refine Kd.R_lit (Kd.int .u8) _ 5 ?hg (N := 10) ?hd (xs := ([27, 91, 68] : List Int)) (inner := [.int .u8 27, .int .u8 91, .int .u8 68]) (ok := fun _ => True) (okp := fun _ => True) ?hr ?hp (fun _ hk => hk) trivial (Below.refl _ _) (Nat.le_refl _) (by simp) ?_; (case hd => rfl); (case hg => rfl); (case hr => first | (go_simp; done) | (go_simp; rfl)); (case hp => exact (Reps.one (show Kd.M (Kd.int .u8) _ _ _ 27 [.int .u8 27] from rfl) (Reps.one (show Kd.M (Kd.int .u8) _ _ _ 91 [.int .u8 91] from rfl) (Reps.one (show Kd.M (Kd.int .u8) _ _ _ 68 [.int .u8 68] from rfl) (Reps.none _ _))))); intro v193 w7 ho8 hb hg_ hnew_; clear hg_ hnew_; (first | rw [← Ny192.out] at ho8 | (simp only [Int.reduceToNat] at ho8; rw [← Ny192.out] at ho8)); have n0_ := Aside0.mk (Kd.R_lower ho8 (below_size (by repeat (first | (with_reducible first | exact HB.out | apply below_alloc | apply pw_below_drewN | apply below_drew1) | exact HB.out)))); have n1_ := Aside0.mk (below_step (by repeat (first | (with_reducible first | exact HB.out | apply below_alloc | apply pw_below_drewN | apply below_drew1) | exact HB.out)) hb); clear HB; have HO194 := n0_; have HB := n1_; clear n0_ n1_; clear hb ho8; have hcv9 := own_string (P := Try.prog) Try.underlying22 Try.underlying5 Try.underlying9 (Kd.own_of_R HO194.out)))
      go_ret
      exact ⟨by first | rfl | (simp [errW_none, errW_some] <;> rfl) | (simp [*, errW_none, errW_some] <;> rfl) | (cases hz_ : t213.toList <;> simp [hz_, errW_none, errW_some]), by repeat (first | (with_reducible first | exact HB.out | apply below_alloc | apply pw_below_drewN | apply below_drew1) | exact HB.out)⟩
    · rw [if_neg c6] at H
      have c6b0 : (a0 == 3) = false := beq_eq_false_iff_ne.mpr c6
      have c6b1 : (a0 != 3) = true := bne_iff_ne.mpr c6
      by_cases c10 : a0 = 4
      · rw [if_pos c10] at H
        have c10b0 : (a0 == 4) = true := beq_iff_eq.mpr c10
        have c10b1 : (a0 != 4) = false := bne_eq_false_iff_eq.mpr c10
        clear c10
        obtain ⟨y195, hy195⟩ : ∃ y_ : List Int, y_ = (([27, 91, 67] : List Int)) := ⟨_, rfl⟩
        replace H : (some (strOfNums y195)) = some r := by first | (rw [hy195]; with_reducible exact H) | (have H2_ := (Option.bind_some _ _).symm.trans H; rw [hy195]; with_reducible exact H2_) | (have H2_ := (Option.bind_some _ _).symm.trans H; with_reducible exact H2_) | with_reducible exact H | (rw [hy195]; exact H) | exact H
        have Ny195 := Aside0.mk hy195
        clear hy195
        obtain rfl := Option.some.inj H
        go_enter Try.func65, Try.ntmps65
        go_wp2_with (first | ((with_reducible refine gate_dst (N := 14) rfl ?_); refine Kd.R_lit (Kd.int .u8) _ 5 ?hg (N := 14) ?hd (xs := ([27, 91, 67] : List Int)) (inner := [.int .u8 27, .int .u8 91, .int .u8 67]) (ok := fun _ => True) (okp := fun _ => True) ?hr ?hp (fun _ hk => hk) trivial (Below.refl _ _) (Nat.le_refl _) (by simp) ?_; (case hd => rfl); (case hg => rfl); (case hr => first | (go_simp; done) | (go_simp; rfl)); (case hp => exact (Reps.one (show Kd.M (Kd.int .u8) _ _ _ 27 [.int .u8 27] from rfl) (Reps.one (show Kd.M (Kd.int .u8) _ _ _ 91 [.int .u8 91] from rfl) (Reps.one (show Kd.M (Kd.int .u8) _ _ _ 67 [.int .u8 67] from rfl) (Reps.none _ _))))); intro v196 w11 ho12 hb hg_ hnew_; clear hg_ hnew_; (first | rw [← Ny195.out] at ho12 | (simp only [Int.reduceToNat] at ho12; rw [← Ny195.out] at ho12)); have n0_ := Aside0.mk (Kd.R_lower ho12 (below_size (by repeat (first | (with_reducible first | exact HB.out | apply below_alloc | apply pw_below_drewN | apply below_drew1) | exact HB.out)))); have n1_ := Aside0.mk (below_step (by repeat (first | (with_reducible first | exact HB.out | apply below_alloc | apply pw_below_drewN | apply below_drew1) | exact HB.out)) hb); clear HB; have HO197 := n0_; have HB := n1_; clear n0_ n1_; clear hb ho12; have hcv13 := own_string (P := Try.prog) Try.underlying22 Try.underlying5 Try.underlying9 (Kd.own_of_R HO197.out)))
        go_ret
        exact ⟨by first | rfl | (simp [errW_none, errW_some] <;> rfl) | (simp [*, errW_none, errW_some] <;> rfl) | (cases hz_ : t213.toList <;> simp [hz_, errW_none, errW_some]), by repeat (first | (with_reducible first | exact HB.out | apply below_alloc | apply pw_below_drewN | apply below_drew1) | exact HB.out)⟩
      · rw [if_neg c10] at H
        have c10b0 : (a0 == 4) = false := beq_eq_false_iff_ne.mpr c10
        have c10b1 : (a0 != 4) = true := bne_iff_ne.mpr c10
        by_cases c14 : a0 = 5
        · rw [if_pos c14] at H
          have c14b0 : (a0 == 5) = true := beq_iff_eq.mpr c14
          have c14b1 : (a0 != 5) = false := bne_eq_false_iff_eq.mpr c14
          clear c14
          obtain ⟨y198, hy198⟩ : ∃ y_ : List Int, y_ = (([27, 91, 65] : List Int)) := ⟨_, rfl⟩
          replace H : (some (strOfNums y198)) = some r := by first | (rw [hy198]; with_reducible exact H) | (have H2_ := (Option.bind_some _ _).symm.trans H; rw [hy198]; with_reducible exact H2_) | (have H2_ := (Option.bind_some _ _).symm.trans H; with_reducible exact H2_) | with_reducible exact H | (rw [hy198]; exact H) | exact H
          have Ny198 := Aside0.mk hy198
          clear hy198
          obtain rfl := Option.some.inj H
          go_enter Try.func65, Try.ntmps65
          go_wp2_with (first | ((with_reducible refine gate_dst (N := 18) rfl ?_); refine Kd.R_lit (Kd.int .u8) _ 5 ?hg (N := 18) ?hd (xs := ([27, 91, 65] : List Int)) (inner := [.int .u8 27, .int .u8 91, .int .u8 65]) (ok := fun _ => True) (okp := fun _ => True) ?hr ?hp (fun _ hk => hk) trivial (Below.refl _ _) (Nat.le_refl _) (by simp) ?_; (case hd => rfl); (case hg => rfl); (case hr => first | (go_simp; done) | (go_simp; rfl)); (case hp => exact (Reps.one (show Kd.M (Kd.int .u8) _ _ _ 27 [.int .u8 27] from rfl) (Reps.one (show Kd.M (Kd.int .u8) _ _ _ 91 [.int .u8 91] from rfl) (Reps.one (show Kd.M (Kd.int .u8) _ _ _ 65 [.int .u8 65] from rfl) (Reps.none _ _))))); intro v199 w15 ho16 hb hg_ hnew_; clear hg_ hnew_; (first | rw [← Ny198.out] at ho16 | (simp only [Int.reduceToNat] at ho16; rw [← Ny198.out] at ho16)); have n0_ := Aside0.mk (Kd.R_lower ho16 (below_size (by repeat (first | (with_reducible first | exact HB.out | apply below_alloc | apply pw_below_drewN | apply below_drew1) | exact HB.out)))); have n1_ := Aside0.mk (below_step (by repeat (first | (with_reducible first | exact HB.out | apply below_alloc | apply pw_below_drewN | apply below_drew1) | exact HB.out)) hb); clear HB; have HO200 := n0_; have HB := n1_; clear n0_ n1_; clear hb ho16; have hcv17 := own_string (P := Try.prog) Try.underlying22 Try.underlying5 Try.underlying9 (Kd.own_of_R HO200.out)))
          go_ret
          exact ⟨by first | rfl | (simp [errW_none, errW_some] <;> rfl) | (simp [*, errW_none, errW_some] <;> rfl) | (cases hz_ : t213.toList <;> simp [hz_, errW_none, errW_some]), by repeat (first | (with_reducible first | exact HB.out | apply below_alloc | apply pw_below_drewN | apply below_drew1) | exact HB.out)⟩
        · rw [if_neg c14] at H
          have c14b0 : (a0 == 5) = false := beq_eq_false_iff_ne.mpr c14
          have c14b1 : (a0 != 5) = true := bne_iff_ne.mpr c14
          by_cases c18 : a0 = 6
          · rw [if_pos c18] at H
            have c18b0 : (a0 == 6) = true := beq_iff_eq.mpr c18
            have c18b1 : (a0 != 6) = false := bne_eq_false_iff_eq.mpr c18
            clear c18
            obtain ⟨y201, hy201⟩ : ∃ y_ : List Int, y_ = (([27, 91, 66] : List Int)) := ⟨_, rfl⟩
            replace H : (some (strOfNums y201)) = some r := by first | (rw [hy201]; with_reducible exact H) | (have H2_ := (Option.bind_some _ _).symm.trans H; rw [hy201]; with_reducible exact H2_) | (have H2_ := (Option.bind_some _ _).symm.trans H; with_reducible exact H2_) | with_reducible exact H | (rw [hy201]; exact H) | exact H
            have Ny201 := Aside0.mk hy201
            clear hy201
            obtain rfl := Option.some.inj H
            go_enter Try.func65, Try.ntmps65
            go_wp2_with (first | ((with_reducible refine gate_dst (N := 22) rfl ?_); refine Kd.R_lit (Kd.int .u8) _ 5 ?hg (N := 22) ?hd (xs := ([27, 91, 66] : List Int)) (inner := [.int .u8 27, .int .u8 91, .int .u8 66]) (ok := fun _ => True) (okp := fun _ => True) ?hr ?hp (fun _ hk => hk) trivial (Below.refl _ _) (Nat.le_refl _) (by simp) ?_; (case hd => rfl); (case hg => rfl); (case hr => first | (go_simp; done) | (go_simp; rfl)); (case hp => exact (Reps.one (show Kd.M (Kd.int .u8) _ _ _ 27 [.int .u8 27] from rfl) (Reps.one (show Kd.M (Kd.int .u8) _ _ _ 91 [.int .u8 91] from rfl) (Reps.one (show Kd.M (Kd.int .u8) _ _ _ 66 [.int .u8 66] from rfl) (Reps.none _ _))))); intro v202 w19 ho20 hb hg_ hnew_; clear hg_ hnew_; (first | rw [← Ny201.out] at ho20 | (simp only [Int.reduceToNat] at ho20; rw [← Ny201.out] at ho20)); have n0_ := Aside0.mk (Kd.R_lower ho20 (below_size (by repeat (first | (with_reducible first | exact HB.out | apply below_alloc | apply pw_below_drewN | apply below_drew1) | exact HB.out)))); have n1_ := Aside0.mk (below_step (by repeat (first | (with_reducible first | exact HB.out | apply below_alloc | apply pw_below_drewN | apply below_drew1) | exact HB.out)) hb); clear HB; have HO203 := n0_; have HB := n1_; clear n0_ n1_; clear hb ho20; have hcv21 := own_string (P := Try.prog) Try.underlying22 Try.underlying5 Try.underlying9 (Kd.own_of_R HO203.out)))
            go_ret
            exact ⟨by first | rfl | (simp [errW_none, errW_some] <;> rfl) | (simp [*, errW_none, errW_some] <;> rfl) | (cases hz_ : t213.toList <;> simp [hz_, errW_none, errW_some]), by repeat (first | (with_reducible first | exact HB.out | apply below_alloc | apply pw_below_drewN | apply below_drew1) | exact HB.out)⟩
          · rw [if_neg c18] at H
            have c18b0 : (a0 == 6) = false := beq_eq_false_iff_ne.mpr c18
            have c18b1 : (a0 != 6) = true := bne_iff_ne.mpr c18
            by_cases c22 : a0 = 7
            · rw [if_pos c22] at H
              have c22b0 : (a0 == 7) = true := beq_iff_eq.mpr c22
              have c22b1 : (a0 != 7) = false := bne_eq_false_iff_eq.mpr c22
              clear c22
              obtain ⟨y204, hy204⟩ : ∃ y_ : List Int, y_ = (([13] : List Int)) := ⟨_, rfl⟩
              replace H : (some (strOfNums y204)) = some r := by first | (rw [hy204]; with_reducible exact H) | (have H2_ := (Option.bind_some _ _).symm.trans H; rw [hy204]; with_reducible exact H2_) | (have H2_ := (Option.bind_some _ _).symm.trans H; with_reducible exact H2_) | with_reducible exact H | (rw [hy204]; exact H) | exact H
              have Ny204 := Aside0.mk hy204
              clear hy204
              obtain rfl := Option.some.inj H
              go_enter Try.func65, Try.ntmps65
              go_wp2_with (first | ((with_reducible refine gate_dst (N := 26) rfl ?_); refine Kd.R_lit (Kd.int .u8) _ 5 ?hg (N := 26) ?hd (xs := ([13] : List Int)) (inner := [.int .u8 13]) (ok := fun _ => True) (okp := fun _ => True) ?hr ?hp (fun _ hk => hk) trivial (Below.refl _ _) (Nat.le_refl _) (by simp) ?_; (case hd => rfl); (case hg => rfl); (case hr => first | (go_simp; done) | (go_simp; rfl)); (case hp => exact (Reps.one (show Kd.M (Kd.int .u8) _ _ _ 13 [.int .u8 13] from rfl) (Reps.none _ _))); intro v205 w23 ho24 hb hg_ hnew_; clear hg_ hnew_; (first | rw [← Ny204.out] at ho24 | (simp only [Int.reduceToNat] at ho24; rw [← Ny204.out] at ho24)); have n0_ := Aside0.mk (Kd.R_lower ho24 (below_size (by repeat (first | (with_reducible first | exact HB.out | apply below_alloc | apply pw_below_drewN | apply below_drew1) | exact HB.out)))); have n1_ := Aside0.mk (below_step (by repeat (first | (with_reducible first | exact HB.out | apply below_alloc | apply pw_below_drewN | apply below_drew1) | exact HB.out)) hb); clear HB; have HO206 := n0_; have HB := n1_; clear n0_ n1_; clear hb ho24; have hcv25 := own_string (P := Try.prog) Try.underlying22 Try.underlying5 Try.underlying9 (Kd.own_of_R HO206.out)))
              go_ret
              exact ⟨by first | rfl | (simp [errW_none, errW_some] <;> rfl) | (simp [*, errW_none, errW_some] <;> rfl) | (cases hz_ : t213.toList <;> simp [hz_, errW_none, errW_some]), by repeat (first | (with_reducible first | exact HB.out | apply below_alloc | apply pw_below_drewN | apply below_drew1) | exact HB.out)⟩
            · rw [if_neg c22] at H
              have c22b0 : (a0 == 7) = false := beq_eq_false_iff_ne.mpr c22
              have c22b1 : (a0 != 7) = true := bne_iff_ne.mpr c22
              obtain rfl := Option.some.inj H
              go_enter Try.func65, Try.ntmps65
              go_wp2
              go_ret
              exact ⟨by first | rfl | (simp [errW_none, errW_some] <;> rfl) | (simp [*, errW_none, errW_some] <;> rfl) | (cases hz_ : t213.toList <;> simp [hz_, errW_none, errW_some]), by repeat (first | (with_reducible first | exact HB.out | apply below_alloc | apply pw_below_drewN | apply below_drew1) | exact HB.out)⟩

/-! ### prolepsisref22_Bytes: function 50 -/
def prolepsisref22_Bytes.f (k : Nat) (a0_0 : Int) (a0_1 : Int) : Option (ByteArray × Bool) := if a0_0 = 1 then ((prolepsisref03_Of.f k a0_1).bind fun t208 => (if t208 = 1 then ((prolepsisref02_Bytes.f k a0_1).bind fun t209 => (some (strOfNums t209, true))) else (some ((⟨#[]⟩ : ByteArray), false)))) else ((prolepsisref22_text.f a0_0).bind fun t212 => ((prolepsisref22_text.f a0_0).bind fun t213 => (some (t212, (t213.toList != ([] : List UInt8))))))
theorem prolepsisref22_Bytes.mono : ∀ a0 a1 k, LeO (prolepsisref22_Bytes.f k a0 a1) (prolepsisref22_Bytes.f (k + 1) a0 a1) := by
  intro a0 a1 k
  unfold prolepsisref22_Bytes.f
  repeat' first
      | (with_reducible exact prolepsisref02_Bytes.mono _ _)
      | (with_reducible exact prolepsisref03_Of.mono _ _)
      | (with_reducible exact LeO.refl _)
      | (with_reducible exact LeO.none _)
      | (with_reducible refine LeO.ite ?_ ?_)
      | (with_reducible refine LeO.bind ?_ (fun _ => ?_))
      | exact prolepsisref02_Bytes.mono _ _
      | exact prolepsisref03_Of.mono _ _
      | exact LeO.none _
      | refine LeO.ite ?_ ?_
      | refine LeO.bind ?_ (fun _ => ?_)
def prolepsisref22_Bytes.T5 : Bool × List (List Nat × List Nat) := (true, [([], []), ([0], [0]), ([1], [1]), ([], []), ([3], [3]), ([4, 2], [4]), ([5], [5]), ([2, 5, 0, 1, 2], [2]), ([6, 7, 0, 1, 2, 3, 4, 5, 6, 7], [6])])
def prolepsisref22_Bytes.B5 : List Nat := [0, 1, 3, 0, 8, 31, 63, 63, 255]
theorem prolepsisref22_Bytes.tab5 : rtab .any (opsOf Try.f50 5) = prolepsisref22_Bytes.T5 := by kernel_rfl
theorem prolepsisref22_Bytes.bits5 : waitsOk prolepsisref22_Bytes.T5.2 prolepsisref22_Bytes.B5 = true := by kernel_rfl
set_option maxHeartbeats 8000000 in
set_option maxRecDepth 100000 in
theorem prolepsisref22_Bytes.calls (k : Nat) (a0_0 : Int) (a0_1 : Int) (r1 : ByteArray) (r2 : Bool) (w : World) (h : prolepsisref22_Bytes.f k a0_0 a0_1 = some (r1, r2)) :
    Calls Try.prog 50 #[.agg #[.int .i64 a0_0, .int .i64 a0_1]] w fun e w' => e = .returned (.tuple #[.string r1, .bool r2]) ∧ Below w.heap.size w w' := by
  have hu75 := Try.underlying75
  have HB := Aside0.mk (Below.refl w.heap.size w)
  have H : (if a0_0 = 1 then ((prolepsisref03_Of.f k a0_1).bind fun t208 => (if t208 = 1 then ((prolepsisref02_Bytes.f k a0_1).bind fun t209 => (some (strOfNums t209, true))) else (some ((⟨#[]⟩ : ByteArray), false)))) else ((prolepsisref22_text.f a0_0).bind fun t212 => ((prolepsisref22_text.f a0_0).bind fun t213 => (some (t212, (t213.toList != ([] : List UInt8))))))) = some (r1, r2) := h
  clear h
  by_cases c2 : a0_0 = 1
  · rw [if_pos c2] at H
    have c2b0 : (a0_0 == 1) = true := beq_iff_eq.mpr c2
    have c2b1 : (a0_0 != 1) = false := bne_eq_false_iff_eq.mpr c2
    clear c2
    replace H := Option.bind_eq_some_iff.mp H
    obtain ⟨t208, A30, H⟩ := H
    replace H : (if t208 = 1 then ((prolepsisref02_Bytes.f k a0_1).bind fun t209 => (some (strOfNums t209, true))) else (some ((⟨#[]⟩ : ByteArray), false))) = some (r1, r2) := H
    have A3 := Aside0.mk A30
    clear A30
    by_cases c4 : t208 = 1
    · rw [if_pos c4] at H
      have c4b0 : (t208 == 1) = true := beq_iff_eq.mpr c4
      have c4b1 : (t208 != 1) = false := bne_eq_false_iff_eq.mpr c4
      clear c4
      replace H := Option.bind_eq_some_iff.mp H
      obtain ⟨t209, A50, H⟩ := H
      replace H : (some (strOfNums t209, true)) = some (r1, r2) := H
      have A5 := Aside0.mk A50
      clear A50
      simp only [Option.some.injEq, Prod.mk.injEq] at H
      obtain ⟨rfl, rfl⟩ := H
      go_enter Try.func50, Try.ntmps50
      go_wp2_with (first | ((with_reducible refine gate_dst (N := 1) rfl ?_); refine box_event ?hg (N := 1) ?hd (cs := #[.int .i64 a0_0, .int .i64 a0_1]) (t := 75) ?hr ?_; (case hd => rfl); (case hg => rfl); (case hr => first | (go_simp; done) | (go_simp; rfl)); intro gb207 hg w6 hbox hb; have n0_ := Aside0.mk (below_step (by repeat (first | (with_reducible first | exact HB.out | apply below_alloc | apply pw_below_drewN | apply below_drew1) | exact HB.out)) hb); have n1_ := Aside0.mk (hbox); have n2_ := Aside0.mk ((by rw [hg]; exact (below_size (by repeat (first | (with_reducible first | exact HB.out | apply below_alloc | apply pw_below_drewN | apply below_drew1) | exact HB.out))) : w.heap.size ≤ gb207)); have n3_ := Aside0.mk ((by rw [hg]; exact (below_size (by repeat (first | (with_reducible first | exact HB.out | apply below_alloc | apply pw_below_drewN | apply below_drew1) | exact HB.out))) : w.heap.size ≤ gb207)); clear HB; have HB := n0_; have BK207 := n1_; have GW207 := n2_; have GE207 := n3_; clear n0_ n1_ n2_ n3_; clear hb hbox hg; have hcz7_0 : w6.cell? ⟨gb207, 0, none⟩ = some (.int .i64 a0_0) := (blk_cell BK207.out 0).trans rfl; have hcz7_1 : w6.cell? ⟨gb207, 1, none⟩ = some (.int .i64 a0_1) := (blk_cell BK207.out 1).trans rfl; have hfz7_0 := blk_frozen BK207.out 0; have hfz7_1 := blk_frozen BK207.out 1) | ((with_reducible refine gate_callee (f := 35) rfl ?_); refine goesL_ (some 9) rfl rfl Try.func35 (by kernel_rfl) rfl #[.int .i64 a0_1] rfl (by (try simp only [List.map_toArray, List.map_cons, List.map_nil]); first | done | rfl | (simp only [List.length_drop, List.length_take]; rfl)) ?_; (with_reducible refine (prolepsisref03_Of.calls k a0_1 t208 _ A3.out).mono ?_); rintro e w8 ⟨rfl, hb⟩; refine ⟨_, rfl, ?_⟩; have n0_ := Aside0.mk (blk_below (g := gb207) (o := .cells #[.int .i64 a0_0, .int .i64 a0_1] 75 (0, 0)) (by (with_reducible repeat (first | refine blk_drewN ?_ _ | refine blk_drew ?_ | refine blk_alloc ?_ _)); exact BK207.out) hb); have n1_ := Aside0.mk (below_step (by repeat (first | (with_reducible first | exact HB.out | apply below_alloc | apply pw_below_drewN | apply below_drew1 | refine below_set ?_ GE207.out) | exact HB.out)) hb); clear BK207; clear HB; have BK207 := n0_; have HB := n1_; clear n0_ n1_; (try clear hb); (try clear hb2); (try clear hk); (try clear hi); have hcz9_0 : w8.cell? ⟨gb207, 0, none⟩ = some (.int .i64 a0_0) := (blk_cell BK207.out 0).trans rfl; have hcz9_1 : w8.cell? ⟨gb207, 1, none⟩ = some (.int .i64 a0_1) := (blk_cell BK207.out 1).trans rfl; have hfz9_0 := blk_frozen BK207.out 0; have hfz9_1 := blk_frozen BK207.out 1) | ((with_reducible refine gate_callee (f := 59) rfl ?_); refine goesL_ (some 13) rfl rfl Try.func59 (by kernel_rfl) rfl #[.int .i64 a0_1] rfl (by (try simp only [List.map_toArray, List.map_cons, List.map_nil]); first | done | rfl | (simp only [List.length_drop, List.length_take]; rfl)) ?_; (with_reducible refine (prolepsisref02_Bytes.calls k a0_1 t209 _ A5.out).mono ?_); rintro e w10 ⟨v210, rfl, ho0, hb⟩; refine ⟨_, rfl, ?_⟩; have n0_ := Aside0.mk (Kd.R_lower ho0 (below_size (by repeat (first | (with_reducible first | exact HB.out | apply below_alloc | apply pw_below_drewN | apply below_drew1 | refine below_set ?_ GE207.out) | exact HB.out)))); have n1_ := Aside0.mk (blk_below (g := gb207) (o := .cells #[.int .i64 a0_0, .int .i64 a0_1] 75 (0, 0)) (by (with_reducible repeat (first | refine blk_drewN ?_ _ | refine blk_drew ?_ | refine blk_alloc ?_ _)); exact BK207.out) hb); have n2_ := Aside0.mk (below_step (by repeat (first | (with_reducible first | exact HB.out | apply below_alloc | apply pw_below_drewN | apply below_drew1 | refine below_set ?_ GE207.out) | exact HB.out)) hb); clear BK207; clear HB; have HO211 := n0_; have BK207 := n1_; have HB := n2_; clear n0_ n1_ n2_; (try clear hb); (try clear hb2); (try clear hk); (try clear hi); (try clear ho0); have hcv11 := own_string (P := Try.prog) Try.underlying22 Try.underlying5 Try.underlying9 (Kd.own_of_R HO211.out)))
      go_ret2
      exact ⟨by first | rfl | (simp [errW_none, errW_some] <;> rfl) | (simp [*, errW_none, errW_some] <;> rfl) | (cases hz_ : t213.toList <;> simp [hz_, errW_none, errW_some]), by repeat (first | (with_reducible first | exact HB.out | apply below_alloc | apply pw_below_drewN | apply below_drew1 | refine below_set ?_ GE207.out) | exact HB.out)⟩
    · rw [if_neg c4] at H
      have c4b0 : (t208 == 1) = false := beq_eq_false_iff_ne.mpr c4
      have c4b1 : (t208 != 1) = true := bne_iff_ne.mpr c4
      simp only [Option.some.injEq, Prod.mk.injEq] at H
      obtain ⟨rfl, rfl⟩ := H
      go_enter Try.func50, Try.ntmps50
      go_wp2_with (first | ((with_reducible refine gate_dst (N := 1) rfl ?_); refine box_event ?hg (N := 1) ?hd (cs := #[.int .i64 a0_0, .int .i64 a0_1]) (t := 75) ?hr ?_; (case hd => rfl); (case hg => rfl); (case hr => first | (go_simp; done) | (go_simp; rfl)); intro gb207 hg w12 hbox hb; have n0_ := Aside0.mk (below_step (by repeat (first | (with_reducible first | exact HB.out | apply below_alloc | apply pw_below_drewN | apply below_drew1) | exact HB.out)) hb); have n1_ := Aside0.mk (hbox); have n2_ := Aside0.mk ((by rw [hg]; exact (below_size (by repeat (first | (with_reducible first | exact HB.out | apply below_alloc | apply pw_below_drewN | apply below_drew1) | exact HB.out))) : w.heap.size ≤ gb207)); have n3_ := Aside0.mk ((by rw [hg]; exact (below_size (by repeat (first | (with_reducible first | exact HB.out | apply below_alloc | apply pw_below_drewN | apply below_drew1) | exact HB.out))) : w.heap.size ≤ gb207)); clear HB; have HB := n0_; have BK207 := n1_; have GW207 := n2_; have GE207 := n3_; clear n0_ n1_ n2_ n3_; clear hb hbox hg; have hcz13_0 : w12.cell? ⟨gb207, 0, none⟩ = some (.int .i64 a0_0) := (blk_cell BK207.out 0).trans rfl; have hcz13_1 : w12.cell? ⟨gb207, 1, none⟩ = some (.int .i64 a0_1) := (blk_cell BK207.out 1).trans rfl; have hfz13_0 := blk_frozen BK207.out 0; have hfz13_1 := blk_frozen BK207.out 1) | ((with_reducible refine gate_callee (f := 35) rfl ?_); refine goesL_ (some 9) rfl rfl Try.func35 (by kernel_rfl) rfl #[.int .i64 a0_1] rfl (by (try simp only [List.map_toArray, List.map_cons, List.map_nil]); first | done | rfl | (simp only [List.length_drop, List.length_take]; rfl)) ?_; (with_reducible refine (prolepsisref03_Of.calls k a0_1 t208 _ A3.out).mono ?_); rintro e w14 ⟨rfl, hb⟩; refine ⟨_, rfl, ?_⟩; have n0_ := Aside0.mk (blk_below (g := gb207) (o := .cells #[.int .i64 a0_0, .int .i64 a0_1] 75 (0, 0)) (by (with_reducible repeat (first | refine blk_drewN ?_ _ | refine blk_drew ?_ | refine blk_alloc ?_ _)); exact BK207.out) hb); have n1_ := Aside0.mk (below_step (by repeat (first | (with_reducible first | exact HB.out | apply below_alloc | apply pw_below_drewN | apply below_drew1 | refine below_set ?_ GE207.out) | exact HB.out)) hb); clear BK207; clear HB; have BK207 := n0_; have HB := n1_; clear n0_ n1_; (try clear hb); (try clear hb2); (try clear hk); (try clear hi)))
      go_ret2
      exact ⟨by first | rfl | (simp [errW_none, errW_some] <;> rfl) | (simp [*, errW_none, errW_some] <;> rfl) | (cases hz_ : t213.toList <;> simp [hz_, errW_none, errW_some]), by repeat (first | (with_reducible first | exact HB.out | apply below_alloc | apply pw_below_drewN | apply below_drew1 | refine below_set ?_ GE207.out) | exact HB.out)⟩
  · rw [if_neg c2] at H
    have c2b0 : (a0_0 == 1) = false := beq_eq_false_iff_ne.mpr c2
    have c2b1 : (a0_0 != 1) = true := bne_iff_ne.mpr c2
    replace H := Option.bind_eq_some_iff.mp H
    obtain ⟨t212, A150, H⟩ := H
    replace H : ((prolepsisref22_text.f a0_0).bind fun t213 => (some (t212, (t213.toList != ([] : List UInt8))))) = some (r1, r2) := H
    have A15 := Aside0.mk A150
    clear A150
    replace H := Option.bind_eq_some_iff.mp H
    obtain ⟨t213, A160, H⟩ := H
    replace H : (some (t212, (t213.toList != ([] : List UInt8)))) = some (r1, r2) := H
    have A16 := Aside0.mk A160
    clear A160
    simp only [Option.some.injEq, Prod.mk.injEq] at H
    obtain ⟨rfl, rfl⟩ := H
    go_enter Try.func50, Try.ntmps50
    try go_wp2_with (first | ((with_reducible refine gate_dst (N := 1) rfl ?_); refine box_event ?hg (N := 1) ?hd (cs := #[.int .i64 a0_0, .int .i64 a0_1]) (t := 75) ?hr ?_; (case hd => rfl); (case hg => rfl); (case hr => first | (go_simp; done) | (go_simp; rfl)); intro gb207 hg w17 hbox hb; have n0_ := Aside0.mk (below_step (by repeat (first | (with_reducible first | exact HB.out | apply below_alloc | apply pw_below_drewN | apply below_drew1) | exact HB.out)) hb); have n1_ := Aside0.mk (hbox); have n2_ := Aside0.mk ((by rw [hg]; exact (below_size (by repeat (first | (with_reducible first | exact HB.out | apply below_alloc | apply pw_below_drewN | apply below_drew1) | exact HB.out))) : w.heap.size ≤ gb207)); have n3_ := Aside0.mk ((by rw [hg]; exact (below_size (by repeat (first | (with_reducible first | exact HB.out | apply below_alloc | apply pw_below_drewN | apply below_drew1) | exact HB.out))) : w.heap.size ≤ gb207)); clear HB; have HB := n0_; have BK207 := n1_; have GW207 := n2_; have GE207 := n3_; clear n0_ n1_ n2_ n3_; clear hb hbox hg; have hcz18_0 : w17.cell? ⟨gb207, 0, none⟩ = some (.int .i64 a0_0) := (blk_cell BK207.out 0).trans rfl; have hcz18_1 : w17.cell? ⟨gb207, 1, none⟩ = some (.int .i64 a0_1) := (blk_cell BK207.out 1).trans rfl; have hfz18_0 := blk_frozen BK207.out 0; have hfz18_1 := blk_frozen BK207.out 1))
    have n0_ := Aside0.mk (blk_drew BK207.out)
    have n1_ := Aside0.mk (below_drew1 HB.out)
    clear BK207
    clear HB
    have BK207 := n0_
    have HB := n1_
    clear n0_ n1_
    refine start_ (n := 9) (S := fun w' => w'.cell? ⟨gb207, 0, none⟩ = some (.int .i64 a0_0) ∧ w'.cell? ⟨gb207, 1, none⟩ = some (.int .i64 a0_1)) (ds := []) #[false, false, false, false, false, false, false, false, false] (by kernel_rfl) rfl rfl ⟨(blk_cell BK207.out 0).trans rfl, (blk_cell BK207.out 1).trans rfl⟩ (fun hHeld => ?_); refine with_tabW prolepsisref22_Bytes.tab5 prolepsisref22_Bytes.bits5 (fun HT_ HW_ => ?_)
    generalize w17.drew = w19 at BK207 HB hHeld ⊢
    refine pure_ (i := 0) (N := some 15) (v := ?_) (a' := ?_) #[true, false, false, false, false, false, false, false, false] rfl rfl (any_of HT_.out (by kernel_rfl)) (fun _ _ _ h => h) (Or.inl ⟨by rfl, ?_⟩) ?_ ?_
    rotate_left
    · intro w'
      go_simp
      with_reducible rfl
    rotate_left
    · simp only [Act.put, List.setIfInBounds_toArray, List.set_cons_zero, List.set_cons_succ, i64_w, i32_w]
      rfl
    refine pure_ (i := 3) (N := some 18) (v := ?_) (a' := ?_) #[true, false, false, true, false, false, false, false, false] rfl rfl (any_of HT_.out (by kernel_rfl)) (fun _ _ _ h => h) (Or.inl ⟨by rfl, ?_⟩) ?_ ?_
    rotate_left
    · intro w'
      go_simp
      with_reducible rfl
    rotate_left
    · simp only [Act.put, List.setIfInBounds_toArray, List.set_cons_zero, List.set_cons_succ, i64_w, i32_w]
      rfl
    refine take_ (i := 1) (N := some 16) (v := ?_) (a' := ?_) #[true, true, false, true, false, false, false, false, false] rfl rfl (take_ofW HT_.out HW_.out (by kernel_rfl)) (fun _ _ _ h => h) (Or.inl ⟨by rfl, ?_⟩) hHeld ?_ ?_
    rotate_left
    · rintro w' ⟨s0, s1⟩
      go_simp
      with_reducible rfl
    rotate_left
    · simp only [Act.put, List.setIfInBounds_toArray, List.set_cons_zero, List.set_cons_succ, i64_w, i32_w]
      rfl
    refine take_ (i := 4) (N := some 19) (v := ?_) (a' := ?_) #[true, true, false, true, true, false, false, false, false] rfl rfl (take_ofW HT_.out HW_.out (by kernel_rfl)) (fun _ _ _ h => h) (Or.inl ⟨by rfl, ?_⟩) hHeld ?_ ?_
    rotate_left
    · rintro w' ⟨s0, s1⟩
      go_simp
      with_reducible rfl
    rotate_left
    · simp only [Act.put, List.setIfInBounds_toArray, List.set_cons_zero, List.set_cons_succ, i64_w, i32_w]
      rfl
    refine one_ (i := 2) (N := some 17) #[true, true, true, true, true, false, false, false, false] rfl rfl (one_of HT_.out (by kernel_rfl)) (by decide) (fun K hK => ?_)
    refine goes_ Try.func65 (by kernel_rfl) rfl #[.int .i64 a0_0] (by rfl) rfl rfl (by (try simp only [List.map_toArray, List.map_cons, List.map_nil]); first | done | rfl | (simp only [List.length_drop, List.length_take]; rfl)) ?_
    with_reducible refine (prolepsisref22_text.calls a0_0 t212 _ A15.out).mono ?_
    rintro e w20 ⟨rfl, hb⟩
    refine ⟨_, rfl, ?_⟩
    have n0_ := Aside0.mk (blk_below (g := gb207) (o := .cells #[.int .i64 a0_0, .int .i64 a0_1] 75 (0, 0)) (by (with_reducible repeat (first | refine blk_drewN ?_ _ | refine blk_drew ?_ | refine blk_alloc ?_ _)); exact BK207.out) hb)
    have n1_ := Aside0.mk (below_step (by repeat (first | (with_reducible first | exact HB.out | apply below_alloc | apply pw_below_drewN | apply below_drew1 | refine below_set ?_ GE207.out) | exact HB.out)) hb)
    clear BK207
    clear HB
    have BK207 := n0_
    have HB := n1_
    clear n0_ n1_
    (try clear hb)
    (try clear hb2)
    (try clear hk)
    (try clear hi)
    refine hK.out _ _ ⟨(blk_cell BK207.out 0).trans rfl, (blk_cell BK207.out 1).trans rfl⟩ (fun hHeld => ?_)
    clear hK K
    refine norm_ (a' := ?_) ?_ ?_
    rotate_left
    · show Act.put _ (some 17) _ = _
      simp only [Act.put, List.setIfInBounds_toArray, List.set_cons_zero, List.set_cons_succ, i64_w, i32_w]
      rfl
    refine one_ (i := 5) (N := some 20) #[true, true, true, true, true, true, false, false, false] rfl rfl (one_of HT_.out (by kernel_rfl)) (by decide) (fun K hK => ?_)
    refine goes_ Try.func65 (by kernel_rfl) rfl #[.int .i64 a0_0] (by rfl) rfl rfl (by (try simp only [List.map_toArray, List.map_cons, List.map_nil]); first | done | rfl | (simp only [List.length_drop, List.length_take]; rfl)) ?_
    with_reducible refine (prolepsisref22_text.calls a0_0 t213 _ A16.out).mono ?_
    rintro e w21 ⟨rfl, hb⟩
    refine ⟨_, rfl, ?_⟩
    have n0_ := Aside0.mk (blk_below (g := gb207) (o := .cells #[.int .i64 a0_0, .int .i64 a0_1] 75 (0, 0)) (by (with_reducible repeat (first | refine blk_drewN ?_ _ | refine blk_drew ?_ | refine blk_alloc ?_ _)); exact BK207.out) hb)
    have n1_ := Aside0.mk (below_step (by repeat (first | (with_reducible first | exact HB.out | apply below_alloc | apply pw_below_drewN | apply below_drew1 | refine below_set ?_ GE207.out) | exact HB.out)) hb)
    clear BK207
    clear HB
    have BK207 := n0_
    have HB := n1_
    clear n0_ n1_
    (try clear hb)
    (try clear hb2)
    (try clear hk)
    (try clear hi)
    refine hK.out _ _ ⟨(blk_cell BK207.out 0).trans rfl, (blk_cell BK207.out 1).trans rfl⟩ (fun hHeld => ?_)
    clear hK K
    refine norm_ (a' := ?_) ?_ ?_
    rotate_left
    · show Act.put _ (some 20) _ = _
      simp only [Act.put, List.setIfInBounds_toArray, List.set_cons_zero, List.set_cons_succ, i64_w, i32_w]
      rfl
    refine pure_ (i := 6) (N := some 21) (v := ?_) (a' := ?_) #[true, true, true, true, true, true, true, false, false] rfl rfl (any_of HT_.out (by kernel_rfl)) (fun _ _ _ h => h) (Or.inl ⟨by rfl, ?_⟩) ?_ ?_
    rotate_left
    · intro w'
      go_simp
      with_reducible rfl
    rotate_left
    · simp only [Act.put, List.setIfInBounds_toArray, List.set_cons_zero, List.set_cons_succ, i64_w, i32_w]
      rfl
    refine pure_ (i := 7) (N := some 2) (v := ?_) (a' := ?_) #[true, true, true, true, true, true, true, true, false] rfl rfl (any_of HT_.out (by kernel_rfl)) (fun _ _ _ h => h) (Or.inl ⟨by rfl, ?_⟩) ?_ ?_
    rotate_left
    · intro w'
      go_simp
      with_reducible rfl
    rotate_left
    · simp only [Act.put, List.setIfInBounds_toArray, List.set_cons_zero, List.set_cons_succ, i64_w, i32_w]
      rfl
    refine pure_ (i := 8) (N := some 3) (v := ?_) (a' := ?_) #[true, true, true, true, true, true, true, true, true] rfl rfl (any_of HT_.out (by kernel_rfl)) (fun _ _ _ h => h) (Or.inl ⟨by rfl, ?_⟩) ?_ ?_
    rotate_left
    · intro w'
      go_simp
      with_reducible rfl
    rotate_left
    · simp only [Act.put, List.setIfInBounds_toArray, List.set_cons_zero, List.set_cons_succ, i64_w, i32_w]
      rfl
    refine done_ (done_of HT_.out (by kernel_rfl)) ?_
    try go_wp2
    go_ret2
    exact ⟨by first | rfl | (simp [errW_none, errW_some] <;> rfl) | (simp [*, errW_none, errW_some] <;> rfl) | (cases hz_ : t213.toList <;> simp [hz_, errW_none, errW_some]), by repeat (first | (with_reducible first | exact HB.out | apply below_alloc | apply pw_below_drewN | apply below_drew1 | refine below_set ?_ GE207.out) | exact HB.out)⟩

-- NOT PRINTED: function 51 (key_Moves)

end Go.Proofs.Ytglcopljhanhmaa.PKeyBytes
