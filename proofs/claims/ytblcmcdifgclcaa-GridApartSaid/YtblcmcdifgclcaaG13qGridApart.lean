/- GridApart: what its proof leads to. No condition. -/
import Derived.Test.YtblcmcdifgclcaaG8qGridApart
import Derived.Test.YtblcmcdifgclcaaG4qGridApart
namespace Go.Proofs.Ytblcmcdifgclcaa.PGridSame
open Go.RowKit Go.Proofs.YtblcmcdifgclcaaW.PrintWords Go.Proofs.YtblcmcdifgclcaaW.PrintLast Go.Proofs.YtblcmcdifgclcaaW.PrintMore
attribute [local go_sem] isSome_setCell max2_int min2_int max_two min_two
set_option linter.unusedVariables false
set_option linter.unusedSimpArgs false
def prolepsisref03_in.l0 : Nat → Int → List Int → Int → Option (Bool)
 | 0, _, _, _ => none
 | k + 1, x0, x1, x5 => if (wrap64 (x5 + 1)) < (x1.length : Int) then (if 0 ≤ x5 then (if x5 < (x1.length : Int) then (if x0 ≥ (rd x1 x5) then (if 0 ≤ (wrap64 (x5 + 1)) then (if x0 ≤ (rd x1 (wrap64 (x5 + 1))) then (some true) else (prolepsisref03_in.l0 k x0 x1 (wrap64 (x5 + 2)))) else (none)) else (prolepsisref03_in.l0 k x0 x1 (wrap64 (x5 + 2)))) else (none)) else (none)) else (some false)
def prolepsisref03_in.f (k : Nat) (a0 : Int) (l1 : List Int) : Option (Bool) := prolepsisref03_in.l0 k a0 l1 0
set_option maxHeartbeats 8000000 in
set_option maxRecDepth 100000 in
theorem prolepsisref03_in.calls (k : Nat) (a0 : Int) (A1 : Option Addr) (c1 : Nat) (l1 : List Int) (r : Bool) (w : World) (hr1 : Kd.C (Kd.int .i64) w A1 l1.length l1) (hc1 : l1.length ≤ c1) (h : prolepsisref03_in.f k a0 l1 = some r) :
 Calls Try.prog 126 #[.int .i64 a0, .slice A1 l1.length c1] w fun e w' => e = .returned (.bool r) ∧ Drawn0 w w' := by
 have HR1 := aS hr1
 have HC1 := aS hc1
 clear hr1 hc1
 have H : (prolepsisref03_in.l0 k a0 l1 0) = some r := h
 clear h
 have H' := aS H
 clear H
 go_enter Try.func126, Try.ntmps126
 go_wp2
 go_loopg [5] k (fun kq v5 w' => ∃ (x5_1 : Int), v5 = .int .i64 x5_1 ∧ Aside0 (prolepsisref03_in.l0 kq a0 l1 x5_1 = some r) ∧ Aside0 (kq ≤ k) ∧ Drawn0 w w')
 case atStart => exact ⟨(0), fS, H', ⟨Nat.le_refl _⟩, by repeat (first | exact Drawn0.refl _ | apply Drawn0.step)⟩
 case round =>
  clear H'
  try clear c1
  try clear p2
  obtain ⟨x5_1, rfl, HA, HK1, ⟨m1, rfl⟩⟩ := hrel
  cases gk with
  | zero => exact absurd HA.out (by simp [prolepsisref03_in.l0])
  | succ k1 =>
   have H := HA.out
   clear HA
   simp only [prolepsisref03_in.l0] at H
   by_cases c3 : (wrap64 (x5_1 + 1)) < (l1.length : Int)
   ·rw [if_pos c3] at H
    have c3b0 : decide ((wrap64 (x5_1 + 1)) < (l1.length : Int)) = true := decide_eq_true c3
    clear c3
    obtain ⟨c4, H⟩ := ifS H
    have c4b0 : decide (0 ≤ x5_1) = true := decide_eq_true c4
    clear c4
    obtain ⟨c5, H⟩ := ifS H
    have c5b0 : decide (x5_1 < (l1.length : Int)) = true := decide_eq_true c5
    clear c5
    by_cases c6 : a0 ≥ (rd l1 x5_1)
    ·rw [if_pos c6] at H
     have c6b0 : decide ((rd l1 x5_1) ≤ a0) = true := decide_eq_true c6
     clear c6
     obtain ⟨ji7, hji7⟩ : ∃ j_ : Int, (wrap64 (x5_1 + 1)) = j_ := ⟨_, rfl⟩
     replace H : (if 0 ≤ (ji7) then (if a0 ≤ (rd l1 (ji7)) then (some true) else (prolepsisref03_in.l0 k1 a0 l1 (wrap64 (x5_1 + 2)))) else (none)) = some r := by first | (rw [hji7] at H; exact H) | (simp only [hji7] at H ⊢; exact H)
     (try rw [hji7] at c3b0)
     have hji7w : (IntKind.i64.wrap (x5_1 + 1)) = ji7 := (i64_w _).trans hji7
     obtain ⟨c8, H⟩ := ifS H
     have c8b0 : decide (0 ≤ (ji7)) = true := decide_eq_true c8
     clear c8
     by_cases c9 : a0 ≤ (rd l1 (ji7))
     ·rw [if_pos c9] at H
      have c9b0 : decide (a0 ≤ (rd l1 (ji7))) = true := decide_eq_true c9
      clear c9
      obtain rfl := Option.some.inj H
      have p310 : 0 ≤ (x5_1 : Int) := dA
      have q310 : x5_1 < (l1.length : Int) := dA
      obtain ⟨ad310, e310, hx310_0⟩ := Kd.at_int HR1.out x5_1 p310 q310
      cases e310
      replace p310 := eq_true p310
      replace q310 := eq_true q310
      have p311 : 0 ≤ ((ji7) : Int) := dA
      have q311 : (ji7) < (l1.length : Int) := dA
      obtain ⟨ad311, e311, hx311_0⟩ := Kd.at_int HR1.out (ji7) p311 q311
      obtain rfl : ad310 = ad311 := (by injection e311)
      replace p311 := eq_true p311
      replace q311 := eq_true q311
      go_wp2
      go_ret
      exact ⟨by first | rfl | (simp; done) | (simp only [← hji7] <;> (first | rfl | simp)) | (simp [*]; done), by repeat (first | exact Drawn0.refl _ | apply Drawn0.step)⟩
     ·rw [if_neg c9] at H
      have c9b0 : decide (a0 ≤ (rd l1 (ji7))) = false := decide_eq_false c9
      clear c9
      have H' := aS H
      clear H
      have p310 : 0 ≤ (x5_1 : Int) := dA
      have q310 : x5_1 < (l1.length : Int) := dA
      obtain ⟨ad310, e310, hx310_0⟩ := Kd.at_int HR1.out x5_1 p310 q310
      cases e310
      replace p310 := eq_true p310
      replace q310 := eq_true q310
      have p311 : 0 ≤ ((ji7) : Int) := dA
      have q311 : (ji7) < (l1.length : Int) := dA
      obtain ⟨ad311, e311, hx311_0⟩ := Kd.at_int HR1.out (ji7) p311 q311
      obtain rfl : ad310 = ad311 := (by injection e311)
      replace p311 := eq_true p311
      replace q311 := eq_true q311
      go_wp2
      go_roundg k1
      case measure => have := HK1.out; omega
      case rel => exact ⟨(wrap64 (x5_1 + 2)), fS, H', ⟨by have := HK1.out; omega⟩, by repeat (first | exact Drawn0.refl _ | apply Drawn0.step)⟩
    ·rw [if_neg c6] at H
     have c6b0 : decide ((rd l1 x5_1) ≤ a0) = false := decide_eq_false c6
     clear c6
     have H' := aS H
     clear H
     have p310 : 0 ≤ (x5_1 : Int) := dA
     have q310 : x5_1 < (l1.length : Int) := dA
     obtain ⟨ad310, e310, hx310_0⟩ := Kd.at_int HR1.out x5_1 p310 q310
     cases e310
     replace p310 := eq_true p310
     replace q310 := eq_true q310
     go_wp2
     go_roundg k1
     case measure => have := HK1.out; omega
     case rel => exact ⟨(wrap64 (x5_1 + 2)), fS, H', ⟨by have := HK1.out; omega⟩, by repeat (first | exact Drawn0.refl _ | apply Drawn0.step)⟩
   ·rw [if_neg c3] at H
    have c3b0 : decide ((wrap64 (x5_1 + 1)) < (l1.length : Int)) = false := decide_eq_false c3
    clear c3
    obtain rfl := Option.some.inj H
    go_wp2
    go_ret
    exact ⟨by first | rfl | (simp; done) | (simp [*]; done), by repeat (first | exact Drawn0.refl _ | apply Drawn0.step)⟩
def prolepsisref02_Scalar.f (a0 : Int) : Option (Bool) := if a0 ≥ 0 then (if a0 ≤ 1114111 then (if a0 < 55296 then (some true) else (some (decide (a0 > 57343)))) else (some false)) else (some false)
set_option maxHeartbeats 8000000 in
set_option maxRecDepth 100000 in
theorem prolepsisref02_Scalar.calls (a0 : Int) (r : Bool) (w : World) (h : prolepsisref02_Scalar.f a0 = some r) :
 Calls Try.prog 127 #[.int .i64 a0] w fun e w' => e = .returned (.bool r) ∧ Drawn0 w w' := by
 have H : (if a0 ≥ 0 then (if a0 ≤ 1114111 then (if a0 < 55296 then (some true) else (some (decide (a0 > 57343)))) else (some false)) else (some false)) = some r := h
 clear h
 by_cases c2 : a0 ≥ 0
 ·rw [if_pos c2] at H
  have c2b0 : decide (0 ≤ a0) = true := decide_eq_true c2
  clear c2
  by_cases c3 : a0 ≤ 1114111
  ·rw [if_pos c3] at H
   have c3b0 : decide (a0 ≤ 1114111) = true := decide_eq_true c3
   clear c3
   by_cases c4 : a0 < 55296
   ·rw [if_pos c4] at H
    have c4b0 : decide (a0 < 55296) = true := decide_eq_true c4
    clear c4
    obtain rfl := Option.some.inj H
    go_enter Try.func127, Try.ntmps127
    go_wp2
    go_ret
    exact ⟨by first | rfl | (simp; done) | (simp [*]; done), by repeat (first | exact Drawn0.refl _ | apply Drawn0.step)⟩
   ·rw [if_neg c4] at H
    have c4b0 : decide (a0 < 55296) = false := decide_eq_false c4
    clear c4
    obtain rfl := Option.some.inj H
    go_enter Try.func127, Try.ntmps127
    go_wp2
    go_ret
    exact ⟨by first | rfl | (simp; done) | (simp [*]; done), by repeat (first | exact Drawn0.refl _ | apply Drawn0.step)⟩
  ·rw [if_neg c3] at H
   have c3b0 : decide (a0 ≤ 1114111) = false := decide_eq_false c3
   clear c3
   obtain rfl := Option.some.inj H
   go_enter Try.func127, Try.ntmps127
   go_wp2
   go_ret
   exact ⟨by first | rfl | (simp; done) | (simp [*]; done), by repeat (first | exact Drawn0.refl _ | apply Drawn0.step)⟩
 ·rw [if_neg c2] at H
  have c2b0 : decide (0 ≤ a0) = false := decide_eq_false c2
  clear c2
  obtain rfl := Option.some.inj H
  go_enter Try.func127, Try.ntmps127
  go_wp2
  go_ret
  exact ⟨by first | rfl | (simp; done) | (simp [*]; done), by repeat (first | exact Drawn0.refl _ | apply Drawn0.step)⟩
def prolepsisref03_Of.j0 : Nat → Int → Bool → Option (Int)
 | 0, _, _ => none
 | k + 1, x0, x14 => if x14 = true then (some (-1)) else ((prolepsisref03_in.f k x0 (([768, 879, 8203, 8207, 8400, 8447, 65024, 65039, 65056, 65071] : List Int))).bind fun t320 => (if t320 = true then (some 0) else ((prolepsisref03_in.f k x0 (([4352, 4447, 11904, 12350, 12353, 42191, 44032, 55203, 63744, 64255, 65072, 65135, 65280, 65376, 65504, 65510, 127744, 128591, 129280, 129535, 131072, 262141] : List Int))).bind fun t324 => (if t324 = true then (some 2) else (some 1)))))
def prolepsisref03_Of.f (k : Nat) (a0 : Int) : Option (Int) := if a0 < 32 then (prolepsisref03_Of.j0 k a0 true) else ((prolepsisref03_in.f k a0 (([127, 159] : List Int))).bind fun t315 => (if t315 = true then (prolepsisref03_Of.j0 k a0 true) else ((prolepsisref02_Scalar.f a0).bind fun t316 => (prolepsisref03_Of.j0 k a0 (!t316)))))
set_option maxHeartbeats 8000000 in
set_option maxRecDepth 100000 in
theorem prolepsisref03_Of.calls (k : Nat) (a0 : Int) (r : Int) (w : World) (h : prolepsisref03_Of.f k a0 = some r) :
 Calls Try.prog 85 #[.int .i64 a0] w fun e w' => e = .returned (.int .i64 r) ∧ Below w.heap.size w w' := by
 have HB := aS (Below.refl w.heap.size w)
 have H : (if a0 < 32 then (prolepsisref03_Of.j0 k a0 true) else ((prolepsisref03_in.f k a0 (([127, 159] : List Int))).bind fun t315 => (if t315 = true then (prolepsisref03_Of.j0 k a0 true) else ((prolepsisref02_Scalar.f a0).bind fun t316 => (prolepsisref03_Of.j0 k a0 (!t316)))))) = some r := h
 clear h
 have HC2 := aS H
 clear H
 go_enter Try.func85, Try.ntmps85
 go_upto_region 1 with (fail)
 go_cut [14] (fun v14 wc => ∃ (kq : Nat) (x14_1 : Bool), v14 = .bool x14_1 ∧ Aside0 (prolepsisref03_Of.j0 kq a0 x14_1 = some r) ∧ Aside0 (kq ≤ k) ∧ Aside0 (Below w.heap.size w wc))
 case first =>
  have H := HC2.out
  clear HC2
  by_cases c3 : a0 < 32
  ·rw [if_pos c3] at H
   have c3b0 : decide (a0 < 32) = true := decide_eq_true c3
   clear c3
   (first | rw [c3b0] | (simp only [i64_w, i32_w]; rw [c3b0]) | skip)
   have H' := aS H
   clear H
   go_wp2
   go_meet
   case rel => exact ⟨_, (true), fS, H', ⟨by first | omega | exact Nat.le_refl _⟩, ⟨bB⟩⟩
  ·rw [if_neg c3] at H
   have c3b0 : decide (a0 < 32) = false := decide_eq_false c3
   clear c3
   (first | rw [c3b0] | (simp only [i64_w, i32_w]; rw [c3b0]) | skip)
   obtain ⟨y312, hy312⟩ : ∃ y_ : List Int, y_ = (([127, 159] : List Int)) := ⟨_, rfl⟩
   replace H : ((prolepsisref03_in.f k a0 y312).bind fun t315 => (if t315 = true then (prolepsisref03_Of.j0 k a0 true) else ((prolepsisref02_Scalar.f a0).bind fun t316 => (prolepsisref03_Of.j0 k a0 (!t316))))) = some r := rq hy312 H
   have Ny312 := aS hy312
   clear hy312
   replace H := Option.bind_eq_some_iff.mp H
   obtain ⟨t315, A40, H⟩ := H
   try dsimp only at H
   have A4 := aS A40
   clear A40
   by_cases c5 : t315 = true
   ·subst c5
    have H1 : (prolepsisref03_Of.j0 k a0 true) = some r := by rw [if_pos rfl] at H; exact H
    clear H
    have H := H1
    clear H1
    have H' := aS H
    clear H
    go_wp2_with (first | ((with_reducible refine gate_dst (N := 7) rfl ?_); (try (refine gate_guard (by rfl) ?_; dsimp only)); refine Kd.R_lit (Kd.int .i64) _ 3 ?hg (N := 7) ?hd (xs := ([127, 159] : List Int)) (inner := [.int .i64 127, .int .i64 159]) (ok := fun _ => True) (okp := fun _ => True) ?hr ?hp (fun _ hk => hk) trivial (Below.refl _ _) (Nat.le_refl _) (by simp) ?_; (case hd => rfl); (case hg => rfl); (case hr => first | (go_simp; done) | (go_simp; rfl)); (case hp => exact (Reps.one (show Kd.M (Kd.int .i64) _ _ _ 127 [.int .i64 127] from rfl) (Reps.one (show Kd.M (Kd.int .i64) _ _ _ 159 [.int .i64 159] from rfl) (Reps.none _ _)))); intro v313 w6 ho7 hb hg_ hnew_; clear hg_ hnew_; (first | rw [← Ny312.out] at ho7 | (simp only [Int.reduceToNat] at ho7; rw [← Ny312.out] at ho7)); have HO314 := aS (Kd.R_lower ho7 (below_size bB)); replace HB := aS (below_step bB hb); clear hb ho7; obtain ⟨Ao8, co8, eo8⟩ := Kd.R_slice HO314.out; subst eo8) | (go_at_call 126; (with_reducible refine (prolepsisref03_in.calls k a0 _ _ y312 true _ ?side1 ?side2 A4.out).mono ?_); (case side1 => exact rC (Kd.R_reads' HO314.out)); (case side2 => exact (Kd.R_reads' HO314.out).2.1); rintro e w' ⟨rfl, ⟨nd, rfl⟩⟩))
    go_meet
    case rel => exact ⟨_, (true), fS, H', ⟨by first | omega | exact Nat.le_refl _⟩, ⟨bB⟩⟩
   ·replace c5 := Bool.eq_false_iff.mpr c5
    subst c5
    have H1 : ((prolepsisref02_Scalar.f a0).bind fun t316 => (prolepsisref03_Of.j0 k a0 (!t316))) = some r := by rw [if_neg (show ¬ (false = true) by decide)] at H; exact H
    clear H
    have H := H1
    clear H1
    replace H := Option.bind_eq_some_iff.mp H
    obtain ⟨t316, A90, H⟩ := H
    try dsimp only at H
    have A9 := aS A90
    clear A90
    have H' := aS H
    clear H
    go_wp2_with (first | ((with_reducible refine gate_dst (N := 7) rfl ?_); (try (refine gate_guard (by rfl) ?_; dsimp only)); refine Kd.R_lit (Kd.int .i64) _ 3 ?hg (N := 7) ?hd (xs := ([127, 159] : List Int)) (inner := [.int .i64 127, .int .i64 159]) (ok := fun _ => True) (okp := fun _ => True) ?hr ?hp (fun _ hk => hk) trivial (Below.refl _ _) (Nat.le_refl _) (by simp) ?_; (case hd => rfl); (case hg => rfl); (case hr => first | (go_simp; done) | (go_simp; rfl)); (case hp => exact (Reps.one (show Kd.M (Kd.int .i64) _ _ _ 127 [.int .i64 127] from rfl) (Reps.one (show Kd.M (Kd.int .i64) _ _ _ 159 [.int .i64 159] from rfl) (Reps.none _ _)))); intro v313 w10 ho11 hb hg_ hnew_; clear hg_ hnew_; (first | rw [← Ny312.out] at ho11 | (simp only [Int.reduceToNat] at ho11; rw [← Ny312.out] at ho11)); have HO314 := aS (Kd.R_lower ho11 (below_size bB)); replace HB := aS (below_step bB hb); clear hb ho11; obtain ⟨Ao12, co12, eo12⟩ := Kd.R_slice HO314.out; subst eo12) | (go_at_call 126; (with_reducible refine (prolepsisref03_in.calls k a0 _ _ y312 false _ ?side1 ?side2 A4.out).mono ?_); (case side1 => exact rC (Kd.R_reads' HO314.out)); (case side2 => exact (Kd.R_reads' HO314.out).2.1); rintro e w' ⟨rfl, ⟨nd, rfl⟩⟩) | (go_at_call 127; (with_reducible refine (prolepsisref02_Scalar.calls a0 t316 _ A9.out).mono ?_); rintro e w' ⟨rfl, ⟨nd, rfl⟩⟩))
    go_meet
    case rel => exact ⟨_, (!t316), fS, H', ⟨by first | omega | exact Nat.le_refl _⟩, ⟨bB⟩⟩
 case rest =>
  clear HC2
  try clear p2
  try clear c3
  try clear c3b0
  try clear c5
  try clear c8
  obtain ⟨kq, x14_1, rfl, HA, HJ1, HB⟩ := hcut
  cases kq with
  | zero => exact absurd HA.out (by simp [prolepsisref03_Of.j0])
  | succ kj1 =>
   have H := HA.out
   clear HA
   simp only [prolepsisref03_Of.j0] at H
   by_cases c13 : x14_1 = true
   ·subst c13
    have H1 : (some (-1)) = some r := by rw [if_pos rfl] at H; exact H
    clear H
    have H := H1
    clear H1
    obtain rfl := Option.some.inj H
    go_wp2
    go_ret
    exact ⟨by first | rfl | (simp <;> rfl) | (simp [*] <;> rfl), bB⟩
   ·replace c13 := Bool.eq_false_iff.mpr c13
    subst c13
    have H1 : ((prolepsisref03_in.f kj1 a0 (([768, 879, 8203, 8207, 8400, 8447, 65024, 65039, 65056, 65071] : List Int))).bind fun t320 => (if t320 = true then (some 0) else ((prolepsisref03_in.f kj1 a0 (([4352, 4447, 11904, 12350, 12353, 42191, 44032, 55203, 63744, 64255, 65072, 65135, 65280, 65376, 65504, 65510, 127744, 128591, 129280, 129535, 131072, 262141] : List Int))).bind fun t324 => (if t324 = true then (some 2) else (some 1))))) = some r := by rw [if_neg (show ¬ (false = true) by decide)] at H; exact H
    clear H
    have H := H1
    clear H1
    obtain ⟨y317, hy317⟩ : ∃ y_ : List Int, y_ = (([768, 879, 8203, 8207, 8400, 8447, 65024, 65039, 65056, 65071] : List Int)) := ⟨_, rfl⟩
    replace H : ((prolepsisref03_in.f kj1 a0 y317).bind fun t320 => (if t320 = true then (some 0) else ((prolepsisref03_in.f kj1 a0 (([4352, 4447, 11904, 12350, 12353, 42191, 44032, 55203, 63744, 64255, 65072, 65135, 65280, 65376, 65504, 65510, 127744, 128591, 129280, 129535, 131072, 262141] : List Int))).bind fun t324 => (if t324 = true then (some 2) else (some 1))))) = some r := rq hy317 H
    have Ny317 := aS hy317
    clear hy317
    replace H := Option.bind_eq_some_iff.mp H
    obtain ⟨t320, A140, H⟩ := H
    try dsimp only at H
    have A14 := aS A140
    clear A140
    by_cases c15 : t320 = true
    ·subst c15
     have H1 : (some 0) = some r := by rw [if_pos rfl] at H; exact H
     clear H
     have H := H1
     clear H1
     obtain rfl := Option.some.inj H
     go_wp2_with (first | ((with_reducible refine gate_dst (N := 16) rfl ?_); (try (refine gate_guard (by rfl) ?_; dsimp only)); refine Kd.R_lit (Kd.int .i64) _ 3 ?hg (N := 16) ?hd (xs := ([768, 879, 8203, 8207, 8400, 8447, 65024, 65039, 65056, 65071] : List Int)) (inner := [.int .i64 768, .int .i64 879, .int .i64 8203, .int .i64 8207, .int .i64 8400, .int .i64 8447, .int .i64 65024, .int .i64 65039, .int .i64 65056, .int .i64 65071]) (ok := fun _ => True) (okp := fun _ => True) ?hr ?hp (fun _ hk => hk) trivial (Below.refl _ _) (Nat.le_refl _) (by simp) ?_; (case hd => rfl); (case hg => rfl); (case hr => first | (go_simp; done) | (go_simp; rfl)); (case hp => exact (Reps.one (show Kd.M (Kd.int .i64) _ _ _ 768 [.int .i64 768] from rfl) (Reps.one (show Kd.M (Kd.int .i64) _ _ _ 879 [.int .i64 879] from rfl) (Reps.one (show Kd.M (Kd.int .i64) _ _ _ 8203 [.int .i64 8203] from rfl) (Reps.one (show Kd.M (Kd.int .i64) _ _ _ 8207 [.int .i64 8207] from rfl) (Reps.one (show Kd.M (Kd.int .i64) _ _ _ 8400 [.int .i64 8400] from rfl) (Reps.one (show Kd.M (Kd.int .i64) _ _ _ 8447 [.int .i64 8447] from rfl) (Reps.one (show Kd.M (Kd.int .i64) _ _ _ 65024 [.int .i64 65024] from rfl) (Reps.one (show Kd.M (Kd.int .i64) _ _ _ 65039 [.int .i64 65039] from rfl) (Reps.one (show Kd.M (Kd.int .i64) _ _ _ 65056 [.int .i64 65056] from rfl) (Reps.one (show Kd.M (Kd.int .i64) _ _ _ 65071 [.int .i64 65071] from rfl) (Reps.none _ _)))))))))))); intro v318 w16 ho17 hb hg_ hnew_; clear hg_ hnew_; (first | rw [← Ny317.out] at ho17 | (simp only [Int.reduceToNat] at ho17; rw [← Ny317.out] at ho17)); have HO319 := aS (Kd.R_lower ho17 (below_size bB)); replace HB := aS (below_step bB hb); clear hb ho17; obtain ⟨Ao18, co18, eo18⟩ := Kd.R_slice HO319.out; subst eo18) | (refine gL 126 17 Try.func126 #[.int .i64 a0, .slice Ao18 y317.length co18] ?_; (with_reducible refine (prolepsisref03_in.calls kj1 a0 _ _ y317 true _ ?side1 ?side2 A14.out).mono ?_); (case side1 => exact rC (Kd.R_reads' HO319.out)); (case side2 => exact (Kd.R_reads' HO319.out).2.1); rintro e w' ⟨rfl, ⟨nd, rfl⟩⟩; refine ⟨_, rfl, ?_⟩))
     go_ret
     exact ⟨by first | rfl | (simp <;> rfl) | (simp [*] <;> rfl), bB⟩
    ·replace c15 := Bool.eq_false_iff.mpr c15
     subst c15
     have H1 : ((prolepsisref03_in.f kj1 a0 (([4352, 4447, 11904, 12350, 12353, 42191, 44032, 55203, 63744, 64255, 65072, 65135, 65280, 65376, 65504, 65510, 127744, 128591, 129280, 129535, 131072, 262141] : List Int))).bind fun t324 => (if t324 = true then (some 2) else (some 1))) = some r := by rw [if_neg (show ¬ (false = true) by decide)] at H; exact H
     clear H
     have H := H1
     clear H1
     obtain ⟨y321, hy321⟩ : ∃ y_ : List Int, y_ = (([4352, 4447, 11904, 12350, 12353, 42191, 44032, 55203, 63744, 64255, 65072, 65135, 65280, 65376, 65504, 65510, 127744, 128591, 129280, 129535, 131072, 262141] : List Int)) := ⟨_, rfl⟩
     replace H : ((prolepsisref03_in.f kj1 a0 y321).bind fun t324 => (if t324 = true then (some 2) else (some 1))) = some r := rq hy321 H
     have Ny321 := aS hy321
     clear hy321
     replace H := Option.bind_eq_some_iff.mp H
     obtain ⟨t324, A190, H⟩ := H
     try dsimp only at H
     have A19 := aS A190
     clear A190
     by_cases c20 : t324 = true
     ·subst c20
      have H1 : (some 2) = some r := by rw [if_pos rfl] at H; exact H
      clear H
      have H := H1
      clear H1
      obtain rfl := Option.some.inj H
      go_wp2_with (first | ((with_reducible refine gate_dst (N := 16) rfl ?_); (try (refine gate_guard (by rfl) ?_; dsimp only)); refine Kd.R_lit (Kd.int .i64) _ 3 ?hg (N := 16) ?hd (xs := ([768, 879, 8203, 8207, 8400, 8447, 65024, 65039, 65056, 65071] : List Int)) (inner := [.int .i64 768, .int .i64 879, .int .i64 8203, .int .i64 8207, .int .i64 8400, .int .i64 8447, .int .i64 65024, .int .i64 65039, .int .i64 65056, .int .i64 65071]) (ok := fun _ => True) (okp := fun _ => True) ?hr ?hp (fun _ hk => hk) trivial (Below.refl _ _) (Nat.le_refl _) (by simp) ?_; (case hd => rfl); (case hg => rfl); (case hr => first | (go_simp; done) | (go_simp; rfl)); (case hp => exact (Reps.one (show Kd.M (Kd.int .i64) _ _ _ 768 [.int .i64 768] from rfl) (Reps.one (show Kd.M (Kd.int .i64) _ _ _ 879 [.int .i64 879] from rfl) (Reps.one (show Kd.M (Kd.int .i64) _ _ _ 8203 [.int .i64 8203] from rfl) (Reps.one (show Kd.M (Kd.int .i64) _ _ _ 8207 [.int .i64 8207] from rfl) (Reps.one (show Kd.M (Kd.int .i64) _ _ _ 8400 [.int .i64 8400] from rfl) (Reps.one (show Kd.M (Kd.int .i64) _ _ _ 8447 [.int .i64 8447] from rfl) (Reps.one (show Kd.M (Kd.int .i64) _ _ _ 65024 [.int .i64 65024] from rfl) (Reps.one (show Kd.M (Kd.int .i64) _ _ _ 65039 [.int .i64 65039] from rfl) (Reps.one (show Kd.M (Kd.int .i64) _ _ _ 65056 [.int .i64 65056] from rfl) (Reps.one (show Kd.M (Kd.int .i64) _ _ _ 65071 [.int .i64 65071] from rfl) (Reps.none _ _)))))))))))); intro v318 w21 ho22 hb hg_ hnew_; clear hg_ hnew_; (first | rw [← Ny317.out] at ho22 | (simp only [Int.reduceToNat] at ho22; rw [← Ny317.out] at ho22)); have HO319 := aS (Kd.R_lower ho22 (below_size bB)); replace HB := aS (below_step bB hb); clear hb ho22; obtain ⟨Ao23, co23, eo23⟩ := Kd.R_slice HO319.out; subst eo23) | (refine gL 126 17 Try.func126 #[.int .i64 a0, .slice Ao23 y317.length co23] ?_; (with_reducible refine (prolepsisref03_in.calls kj1 a0 _ _ y317 false _ ?side1 ?side2 A14.out).mono ?_); (case side1 => exact rC (Kd.R_reads' HO319.out)); (case side2 => exact (Kd.R_reads' HO319.out).2.1); rintro e w' ⟨rfl, ⟨nd, rfl⟩⟩; refine ⟨_, rfl, ?_⟩) | ((with_reducible refine gate_dst (N := 19) rfl ?_); (try (refine gate_guard (by rfl) ?_; dsimp only)); refine Kd.R_lit (Kd.int .i64) _ 3 ?hg (N := 19) ?hd (xs := ([4352, 4447, 11904, 12350, 12353, 42191, 44032, 55203, 63744, 64255, 65072, 65135, 65280, 65376, 65504, 65510, 127744, 128591, 129280, 129535, 131072, 262141] : List Int)) (inner := [.int .i64 4352, .int .i64 4447, .int .i64 11904, .int .i64 12350, .int .i64 12353, .int .i64 42191, .int .i64 44032, .int .i64 55203, .int .i64 63744, .int .i64 64255, .int .i64 65072, .int .i64 65135, .int .i64 65280, .int .i64 65376, .int .i64 65504, .int .i64 65510, .int .i64 127744, .int .i64 128591, .int .i64 129280, .int .i64 129535, .int .i64 131072, .int .i64 262141]) (ok := fun _ => True) (okp := fun _ => True) ?hr ?hp (fun _ hk => hk) trivial (Below.refl _ _) (Nat.le_refl _) (by simp) ?_; (case hd => rfl); (case hg => rfl); (case hr => first | (go_simp; done) | (go_simp; rfl)); (case hp => exact (Reps.one (show Kd.M (Kd.int .i64) _ _ _ 4352 [.int .i64 4352] from rfl) (Reps.one (show Kd.M (Kd.int .i64) _ _ _ 4447 [.int .i64 4447] from rfl) (Reps.one (show Kd.M (Kd.int .i64) _ _ _ 11904 [.int .i64 11904] from rfl) (Reps.one (show Kd.M (Kd.int .i64) _ _ _ 12350 [.int .i64 12350] from rfl) (Reps.one (show Kd.M (Kd.int .i64) _ _ _ 12353 [.int .i64 12353] from rfl) (Reps.one (show Kd.M (Kd.int .i64) _ _ _ 42191 [.int .i64 42191] from rfl) (Reps.one (show Kd.M (Kd.int .i64) _ _ _ 44032 [.int .i64 44032] from rfl) (Reps.one (show Kd.M (Kd.int .i64) _ _ _ 55203 [.int .i64 55203] from rfl) (Reps.one (show Kd.M (Kd.int .i64) _ _ _ 63744 [.int .i64 63744] from rfl) (Reps.one (show Kd.M (Kd.int .i64) _ _ _ 64255 [.int .i64 64255] from rfl) (Reps.one (show Kd.M (Kd.int .i64) _ _ _ 65072 [.int .i64 65072] from rfl) (Reps.one (show Kd.M (Kd.int .i64) _ _ _ 65135 [.int .i64 65135] from rfl) (Reps.one (show Kd.M (Kd.int .i64) _ _ _ 65280 [.int .i64 65280] from rfl) (Reps.one (show Kd.M (Kd.int .i64) _ _ _ 65376 [.int .i64 65376] from rfl) (Reps.one (show Kd.M (Kd.int .i64) _ _ _ 65504 [.int .i64 65504] from rfl) (Reps.one (show Kd.M (Kd.int .i64) _ _ _ 65510 [.int .i64 65510] from rfl) (Reps.one (show Kd.M (Kd.int .i64) _ _ _ 127744 [.int .i64 127744] from rfl) (Reps.one (show Kd.M (Kd.int .i64) _ _ _ 128591 [.int .i64 128591] from rfl) (Reps.one (show Kd.M (Kd.int .i64) _ _ _ 129280 [.int .i64 129280] from rfl) (Reps.one (show Kd.M (Kd.int .i64) _ _ _ 129535 [.int .i64 129535] from rfl) (Reps.one (show Kd.M (Kd.int .i64) _ _ _ 131072 [.int .i64 131072] from rfl) (Reps.one (show Kd.M (Kd.int .i64) _ _ _ 262141 [.int .i64 262141] from rfl) (Reps.none _ _)))))))))))))))))))))))); intro v322 w24 ho25 hb hg_ hnew_; clear hg_ hnew_; (first | rw [← Ny321.out] at ho25 | (simp only [Int.reduceToNat] at ho25; rw [← Ny321.out] at ho25)); have HO323 := aS (Kd.R_lower (Kd.R_new' ho25 (Kd.R_lt (rr HO319))) (below_size bB)); replace HO319 := aS (Kd.R_elder' (rr HO319) (Kd.R_base ho25) hb); replace HB := aS (below_step bB hb); clear hb ho25; obtain ⟨Ao26, co26, eo26⟩ := Kd.R_slice HO323.out; subst eo26) | (refine gL 126 20 Try.func126 #[.int .i64 a0, .slice Ao26 y321.length co26] ?_; (with_reducible refine (prolepsisref03_in.calls kj1 a0 _ _ y321 true _ ?side1 ?side2 A19.out).mono ?_); (case side1 => exact rC (Kd.R_reads' HO323.out)); (case side2 => exact (Kd.R_reads' HO323.out).2.1); rintro e w' ⟨rfl, ⟨nd, rfl⟩⟩; refine ⟨_, rfl, ?_⟩))
      go_ret
      exact ⟨by first | rfl | (simp <;> rfl) | (simp [*] <;> rfl), bB⟩
     ·replace c20 := Bool.eq_false_iff.mpr c20
      subst c20
      have H1 : (some 1) = some r := by rw [if_neg (show ¬ (false = true) by decide)] at H; exact H
      clear H
      have H := H1
      clear H1
      obtain rfl := Option.some.inj H
      go_wp2_with (first | ((with_reducible refine gate_dst (N := 16) rfl ?_); (try (refine gate_guard (by rfl) ?_; dsimp only)); refine Kd.R_lit (Kd.int .i64) _ 3 ?hg (N := 16) ?hd (xs := ([768, 879, 8203, 8207, 8400, 8447, 65024, 65039, 65056, 65071] : List Int)) (inner := [.int .i64 768, .int .i64 879, .int .i64 8203, .int .i64 8207, .int .i64 8400, .int .i64 8447, .int .i64 65024, .int .i64 65039, .int .i64 65056, .int .i64 65071]) (ok := fun _ => True) (okp := fun _ => True) ?hr ?hp (fun _ hk => hk) trivial (Below.refl _ _) (Nat.le_refl _) (by simp) ?_; (case hd => rfl); (case hg => rfl); (case hr => first | (go_simp; done) | (go_simp; rfl)); (case hp => exact (Reps.one (show Kd.M (Kd.int .i64) _ _ _ 768 [.int .i64 768] from rfl) (Reps.one (show Kd.M (Kd.int .i64) _ _ _ 879 [.int .i64 879] from rfl) (Reps.one (show Kd.M (Kd.int .i64) _ _ _ 8203 [.int .i64 8203] from rfl) (Reps.one (show Kd.M (Kd.int .i64) _ _ _ 8207 [.int .i64 8207] from rfl) (Reps.one (show Kd.M (Kd.int .i64) _ _ _ 8400 [.int .i64 8400] from rfl) (Reps.one (show Kd.M (Kd.int .i64) _ _ _ 8447 [.int .i64 8447] from rfl) (Reps.one (show Kd.M (Kd.int .i64) _ _ _ 65024 [.int .i64 65024] from rfl) (Reps.one (show Kd.M (Kd.int .i64) _ _ _ 65039 [.int .i64 65039] from rfl) (Reps.one (show Kd.M (Kd.int .i64) _ _ _ 65056 [.int .i64 65056] from rfl) (Reps.one (show Kd.M (Kd.int .i64) _ _ _ 65071 [.int .i64 65071] from rfl) (Reps.none _ _)))))))))))); intro v318 w27 ho28 hb hg_ hnew_; clear hg_ hnew_; (first | rw [← Ny317.out] at ho28 | (simp only [Int.reduceToNat] at ho28; rw [← Ny317.out] at ho28)); have HO319 := aS (Kd.R_lower ho28 (below_size bB)); replace HB := aS (below_step bB hb); clear hb ho28; obtain ⟨Ao29, co29, eo29⟩ := Kd.R_slice HO319.out; subst eo29) | (refine gL 126 17 Try.func126 #[.int .i64 a0, .slice Ao29 y317.length co29] ?_; (with_reducible refine (prolepsisref03_in.calls kj1 a0 _ _ y317 false _ ?side1 ?side2 A14.out).mono ?_); (case side1 => exact rC (Kd.R_reads' HO319.out)); (case side2 => exact (Kd.R_reads' HO319.out).2.1); rintro e w' ⟨rfl, ⟨nd, rfl⟩⟩; refine ⟨_, rfl, ?_⟩) | ((with_reducible refine gate_dst (N := 19) rfl ?_); (try (refine gate_guard (by rfl) ?_; dsimp only)); refine Kd.R_lit (Kd.int .i64) _ 3 ?hg (N := 19) ?hd (xs := ([4352, 4447, 11904, 12350, 12353, 42191, 44032, 55203, 63744, 64255, 65072, 65135, 65280, 65376, 65504, 65510, 127744, 128591, 129280, 129535, 131072, 262141] : List Int)) (inner := [.int .i64 4352, .int .i64 4447, .int .i64 11904, .int .i64 12350, .int .i64 12353, .int .i64 42191, .int .i64 44032, .int .i64 55203, .int .i64 63744, .int .i64 64255, .int .i64 65072, .int .i64 65135, .int .i64 65280, .int .i64 65376, .int .i64 65504, .int .i64 65510, .int .i64 127744, .int .i64 128591, .int .i64 129280, .int .i64 129535, .int .i64 131072, .int .i64 262141]) (ok := fun _ => True) (okp := fun _ => True) ?hr ?hp (fun _ hk => hk) trivial (Below.refl _ _) (Nat.le_refl _) (by simp) ?_; (case hd => rfl); (case hg => rfl); (case hr => first | (go_simp; done) | (go_simp; rfl)); (case hp => exact (Reps.one (show Kd.M (Kd.int .i64) _ _ _ 4352 [.int .i64 4352] from rfl) (Reps.one (show Kd.M (Kd.int .i64) _ _ _ 4447 [.int .i64 4447] from rfl) (Reps.one (show Kd.M (Kd.int .i64) _ _ _ 11904 [.int .i64 11904] from rfl) (Reps.one (show Kd.M (Kd.int .i64) _ _ _ 12350 [.int .i64 12350] from rfl) (Reps.one (show Kd.M (Kd.int .i64) _ _ _ 12353 [.int .i64 12353] from rfl) (Reps.one (show Kd.M (Kd.int .i64) _ _ _ 42191 [.int .i64 42191] from rfl) (Reps.one (show Kd.M (Kd.int .i64) _ _ _ 44032 [.int .i64 44032] from rfl) (Reps.one (show Kd.M (Kd.int .i64) _ _ _ 55203 [.int .i64 55203] from rfl) (Reps.one (show Kd.M (Kd.int .i64) _ _ _ 63744 [.int .i64 63744] from rfl) (Reps.one (show Kd.M (Kd.int .i64) _ _ _ 64255 [.int .i64 64255] from rfl) (Reps.one (show Kd.M (Kd.int .i64) _ _ _ 65072 [.int .i64 65072] from rfl) (Reps.one (show Kd.M (Kd.int .i64) _ _ _ 65135 [.int .i64 65135] from rfl) (Reps.one (show Kd.M (Kd.int .i64) _ _ _ 65280 [.int .i64 65280] from rfl) (Reps.one (show Kd.M (Kd.int .i64) _ _ _ 65376 [.int .i64 65376] from rfl) (Reps.one (show Kd.M (Kd.int .i64) _ _ _ 65504 [.int .i64 65504] from rfl) (Reps.one (show Kd.M (Kd.int .i64) _ _ _ 65510 [.int .i64 65510] from rfl) (Reps.one (show Kd.M (Kd.int .i64) _ _ _ 127744 [.int .i64 127744] from rfl) (Reps.one (show Kd.M (Kd.int .i64) _ _ _ 128591 [.int .i64 128591] from rfl) (Reps.one (show Kd.M (Kd.int .i64) _ _ _ 129280 [.int .i64 129280] from rfl) (Reps.one (show Kd.M (Kd.int .i64) _ _ _ 129535 [.int .i64 129535] from rfl) (Reps.one (show Kd.M (Kd.int .i64) _ _ _ 131072 [.int .i64 131072] from rfl) (Reps.one (show Kd.M (Kd.int .i64) _ _ _ 262141 [.int .i64 262141] from rfl) (Reps.none _ _)))))))))))))))))))))))); intro v322 w30 ho31 hb hg_ hnew_; clear hg_ hnew_; (first | rw [← Ny321.out] at ho31 | (simp only [Int.reduceToNat] at ho31; rw [← Ny321.out] at ho31)); have HO323 := aS (Kd.R_lower (Kd.R_new' ho31 (Kd.R_lt (rr HO319))) (below_size bB)); replace HO319 := aS (Kd.R_elder' (rr HO319) (Kd.R_base ho31) hb); replace HB := aS (below_step bB hb); clear hb ho31; obtain ⟨Ao32, co32, eo32⟩ := Kd.R_slice HO323.out; subst eo32) | (refine gL 126 20 Try.func126 #[.int .i64 a0, .slice Ao32 y321.length co32] ?_; (with_reducible refine (prolepsisref03_in.calls kj1 a0 _ _ y321 false _ ?side1 ?side2 A19.out).mono ?_); (case side1 => exact rC (Kd.R_reads' HO323.out)); (case side2 => exact (Kd.R_reads' HO323.out).2.1); rintro e w' ⟨rfl, ⟨nd, rfl⟩⟩; refine ⟨_, rfl, ?_⟩))
      go_ret
      exact ⟨by first | rfl | (simp <;> rfl) | (simp [*] <;> rfl), bB⟩
def prolepsisref04_Right.f (a0_0 : Int) (a0_1 : Int) (a0_2 : Int) : Option (Bool) := if a0_0 ≤ 31 then (if a0_1 ≤ 16 then (some (decide (a0_2 ≤ 16))) else (some false)) else (some false)
set_option maxHeartbeats 8000000 in
set_option maxRecDepth 100000 in
theorem prolepsisref04_Right.calls (a0_0 : Int) (a0_1 : Int) (a0_2 : Int) (r : Bool) (w : World) (h : prolepsisref04_Right.f a0_0 a0_1 a0_2 = some r) :
 Calls Try.prog 93 #[.agg #[.int .u8 a0_0, .int .u8 a0_1, .int .u8 a0_2]] w fun e w' => e = .returned (.bool r) ∧ Below w.heap.size w w' := by
 have hu30 := Try.underlying30
 have HB := aS (Below.refl w.heap.size w)
 have H : (if a0_0 ≤ 31 then (if a0_1 ≤ 16 then (some (decide (a0_2 ≤ 16))) else (some false)) else (some false)) = some r := h
 clear h
 by_cases c2 : a0_0 ≤ 31
 ·rw [if_pos c2] at H
  have c2b0 : decide (a0_0 ≤ 31) = true := decide_eq_true c2
  clear c2
  by_cases c3 : a0_1 ≤ 16
  ·rw [if_pos c3] at H
   have c3b0 : decide (a0_1 ≤ 16) = true := decide_eq_true c3
   clear c3
   obtain rfl := Option.some.inj H
   go_enter Try.func93, Try.ntmps93
   go_wp2_with (first | (refine bx 1 #[.int .u8 a0_0, .int .u8 a0_1, .int .u8 a0_2] 30 ?_; intro gb325 hg w4 hbox hb; have BK325 := aS (hbox); have GW325 := aS (gw HB hg); have GE325 := aS (gw HB hg); replace HB := aS (below_step bB hb); clear hb hbox hg; have hz5 := cel3 BK325.out))
   go_ret
   exact ⟨by first | rfl | (simp <;> rfl) | (simp [*] <;> rfl), bS⟩
  ·rw [if_neg c3] at H
   have c3b0 : decide (a0_1 ≤ 16) = false := decide_eq_false c3
   clear c3
   obtain rfl := Option.some.inj H
   go_enter Try.func93, Try.ntmps93
   go_wp2_with (first | (refine bx 1 #[.int .u8 a0_0, .int .u8 a0_1, .int .u8 a0_2] 30 ?_; intro gb325 hg w6 hbox hb; have BK325 := aS (hbox); have GW325 := aS (gw HB hg); have GE325 := aS (gw HB hg); replace HB := aS (below_step bB hb); clear hb hbox hg; have hz7 := cel3 BK325.out))
   go_ret
   exact ⟨by first | rfl | (simp <;> rfl) | (simp [*] <;> rfl), bS⟩
 ·rw [if_neg c2] at H
  have c2b0 : decide (a0_0 ≤ 31) = false := decide_eq_false c2
  clear c2
  obtain rfl := Option.some.inj H
  go_enter Try.func93, Try.ntmps93
  go_wp2_with (first | (refine bx 1 #[.int .u8 a0_0, .int .u8 a0_1, .int .u8 a0_2] 30 ?_; intro gb325 hg w8 hbox hb; have BK325 := aS (hbox); have GW325 := aS (gw HB hg); have GE325 := aS (gw HB hg); replace HB := aS (below_step bB hb); clear hb hbox hg; have hz9 := cel3 BK325.out))
  go_ret
  exact ⟨by first | rfl | (simp <;> rfl) | (simp [*] <;> rfl), bS⟩
end Go.Proofs.Ytblcmcdifgclcaa.PGridSame
