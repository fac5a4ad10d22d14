/- LineMakes: what its proof leads to. No condition. -/
import Derived.Test.YtblcmcdifgclcaaPLineMakesx0qLineMakes
import Derived.Test.YtblcmcdifgclcaaPLineMakesx3qLineMakes
import Derived.Test.YtblcmcdifgclcaaPLineMakesx5qLineMakes
import Derived.Test.YtblcmcdifgclcaaShortqLineMakes
namespace Go.Proofs.Ytblcmcdifgclcaa.PLineMakes
open Go.RowKit Go.Proofs.YtblcmcdifgclcaaW.PrintWords Go.Proofs.YtblcmcdifgclcaaW.PrintLast Go.Proofs.YtblcmcdifgclcaaW.PrintMore
attribute [local go_sem] isSome_setCell max2_int min2_int max_two min_two
set_option linter.unusedVariables false
set_option linter.unusedSimpArgs false

def slices_Index_rune_rune.l0 : Nat → List Int → Int → Int → Int → Option (Int)
  | 0, _, _, _, _ => none
  | k + 1, x0, x1, x7, x8 => if x8 < x7 then (if 0 ≤ x8 then (if x8 < (x0.length : Int) then (if x1 = (rd x0 x8) then (some x8) else (slices_Index_rune_rune.l0 k x0 x1 x7 (wrap64 (x8 + 1)))) else (none)) else (none)) else (some (-1))
def slices_Index_rune_rune.f (k : Nat) (l0 : List Int) (a1 : Int) : Option (Int) := slices_Index_rune_rune.l0 k l0 a1 (l0.length : Int) 0
set_option maxHeartbeats 8000000 in
set_option maxRecDepth 100000 in
theorem slices_Index_rune_rune.calls (k : Nat) (A0 : Option Addr) (c0 : Nat) (l0 : List Int) (a1 : Int) (r : Int) (w : World) (hr0 : Kd.C (Kd.int .i32) w A0 l0.length l0) (hc0 : l0.length ≤ c0) (h : slices_Index_rune_rune.f k l0 a1 = some r) :
    Calls Try.prog 86 #[.slice A0 l0.length c0, .int .i32 a1] w fun e w' => e = .returned (.int .i64 r) ∧ Drawn0 w w' := by
  have HR0 := Aside0.mk hr0
  have HC0 := Aside0.mk hc0
  clear hr0 hc0
  have H : (slices_Index_rune_rune.l0 k l0 a1 (l0.length : Int) 0) = some r := h
  clear h
  have H' := Aside0.mk H
  clear H
  go_enter Try.func86, Try.ntmps86
  go_wp2
  go_loopg [8] k (fun kq v8 w' => ∃ (x8_1 : Int), v8 = .int .i64 x8_1 ∧ Aside0 (slices_Index_rune_rune.l0 kq l0 a1 (l0.length : Int) x8_1 = some r) ∧ Aside0 (kq ≤ k) ∧ Drawn0 w w')
  case atStart => exact ⟨(0), (by first | rfl | (simp; done) | (simp [*]; done)), H', ⟨Nat.le_refl _⟩, by repeat (first | exact Drawn0.refl _ | apply Drawn0.step)⟩
  case round =>
    clear H'
    try clear p2
    obtain ⟨x8_1, rfl, HA, HK1, ⟨m1, rfl⟩⟩ := hrel
    cases gk with
    | zero => exact absurd HA.out (by simp [slices_Index_rune_rune.l0])
    | succ k1 =>
      have H := HA.out
      clear HA
      simp only [slices_Index_rune_rune.l0] at H
      by_cases c3 : x8_1 < (l0.length : Int)
      · rw [if_pos c3] at H
        have c3b0 : decide (x8_1 < (l0.length : Int)) = true := decide_eq_true c3
        clear c3
        by_cases c4 : 0 ≤ x8_1
        · rw [if_pos c4] at H
          have c4b0 : decide (0 ≤ x8_1) = true := decide_eq_true c4
          clear c4
          by_cases c5 : x8_1 < (l0.length : Int)
          · rw [if_pos c5] at H
            have c5b0 : decide (x8_1 < (l0.length : Int)) = true := decide_eq_true c5
            clear c5
            by_cases c6 : a1 = (rd l0 x8_1)
            · rw [if_pos c6] at H
              have c6b0 : (a1 == (rd l0 x8_1)) = true := beq_iff_eq.mpr c6
              have c6b1 : (a1 != (rd l0 x8_1)) = false := bne_eq_false_iff_eq.mpr c6
              clear c6
              obtain rfl := Option.some.inj H
              have p294 : 0 ≤ (x8_1 : Int) := of_decide_eq_true (by first | (with_reducible assumption) | assumption)
              have q294 : x8_1 < (l0.length : Int) := of_decide_eq_true (by first | (with_reducible assumption) | assumption)
              obtain ⟨ad294, e294, hx294_0⟩ := Kd.at_int HR0.out x8_1 p294 q294
              cases e294
              replace p294 := eq_true p294
              replace q294 := eq_true q294
              go_wp2
              go_ret
              exact ⟨by first | rfl | (simp; done) | (simp [*]; done), by repeat (first | exact Drawn0.refl _ | apply Drawn0.step)⟩
            · rw [if_neg c6] at H
              have c6b0 : (a1 == (rd l0 x8_1)) = false := beq_eq_false_iff_ne.mpr c6
              have c6b1 : (a1 != (rd l0 x8_1)) = true := bne_iff_ne.mpr c6
              have H' := Aside0.mk H
              clear H
              have p294 : 0 ≤ (x8_1 : Int) := of_decide_eq_true (by first | (with_reducible assumption) | assumption)
              have q294 : x8_1 < (l0.length : Int) := of_decide_eq_true (by first | (with_reducible assumption) | assumption)
              obtain ⟨ad294, e294, hx294_0⟩ := Kd.at_int HR0.out x8_1 p294 q294
              cases e294
              replace p294 := eq_true p294
              replace q294 := eq_true q294
              go_wp2
              go_roundg k1
              case measure => have := HK1.out; omega
              case rel => exact ⟨(wrap64 (x8_1 + 1)), (by first | rfl | (simp; done) | (simp [*]; done)), H', ⟨by have := HK1.out; omega⟩, by repeat (first | exact Drawn0.refl _ | apply Drawn0.step)⟩
          · rw [if_neg c5] at H
            exact absurd H (by simp)
        · rw [if_neg c4] at H
          exact absurd H (by simp)
      · rw [if_neg c3] at H
        have c3b0 : decide (x8_1 < (l0.length : Int)) = false := decide_eq_false c3
        clear c3
        obtain rfl := Option.some.inj H
        go_wp2
        go_ret
        exact ⟨by first | rfl | (simp; done) | (simp [*]; done), by repeat (first | exact Drawn0.refl _ | apply Drawn0.step)⟩

def width_Mark.f (a0 : Int) : Option (Bool) := (width_Of.f a0).bind fun t295 => (some (t295 == 0))
set_option maxHeartbeats 8000000 in
set_option maxRecDepth 100000 in
theorem width_Mark.calls (a0 : Int) (r : Bool) (w : World) (h : width_Mark.f a0 = some r) :
    Calls Try.prog 87 #[.int .i32 a0] w fun e w' => e = .returned (.bool r) ∧ Below w.heap.size w w' := by
  have HB := aS (Below.refl w.heap.size w)
  have H : ((width_Of.f a0).bind fun t295 => (some (t295 == 0))) = some r := h
  clear h
  replace H := Option.bind_eq_some_iff.mp H
  obtain ⟨t295, A20, H⟩ := H
  try dsimp only at H
  have A2 := Aside0.mk A20
  clear A20
  obtain rfl := Option.some.inj H
  go_enter Try.func87, Try.ntmps87
  go_wp2_with (first | ((with_reducible refine gate_callee (f := 84) rfl ?_); refine goesL_ (some 4) rfl rfl Try.func84 (by kernel_rfl) rfl #[.int .i32 a0] rfl (by (try simp only [List.map_toArray, List.map_cons, List.map_nil]); first | done | rfl | (simp only [List.length_drop, List.length_take]; rfl)) ?_; (with_reducible refine (width_Of.calls a0 t295 _ A2.out).mono ?_); rintro e w3 ⟨rfl, hb⟩; refine ⟨_, rfl, ?_⟩; have n0_ := aS (below_step (by repeat (first | (with_reducible first | exact HB.out | apply lA | apply lN | apply lD) | exact HB.out)) hb); clear HB; have HB := n0_; clear n0_; (try clear hb); (try clear hb2); (try clear hk); (try clear hi)))
  go_ret
  exact ⟨by first | rfl | (simp <;> rfl) | (simp [*] <;> rfl), by repeat (first | (with_reducible first | exact HB.out | apply lA | apply lN | apply lD) | exact HB.out)⟩

def cell_Mark.f (a0_0 : Int) (a0_1 : Int) (a0_2 : Int) (a0_3 : Int) (a0_4 : Int) (a0_5 : Int) (a0_6 : Int) (a1 : Int) : Option (Int × Int × Int × Int × Int × Int × Int × Bool) := some (markC a0_0 a0_1 a0_2 a0_3 a0_4 a0_5 a0_6 a1)
theorem cell_Mark.calls (a0_0 : Int) (a0_1 : Int) (a0_2 : Int) (a0_3 : Int) (a0_4 : Int) (a0_5 : Int) (a0_6 : Int) (a1 : Int) (r1 : Int) (r2 : Int) (r3 : Int) (r4 : Int) (r5 : Int) (r6 : Int) (r7 : Int) (r8 : Bool) (w : World) (h : cell_Mark.f a0_0 a0_1 a0_2 a0_3 a0_4 a0_5 a0_6 a1 = some (r1, r2, r3, r4, r5, r6, r7, r8)) :
    Calls Try.prog 16 #[.agg #[.int .i32 a0_0, .int .i32 a0_1, .int .i32 a0_2, .int .u8 a0_3, .int .u8 a0_4, .int .u8 a0_5, .int .u8 a0_6], .int .i32 a1] w fun e w' => e = .returned (.tuple #[.agg #[.int .i32 r1, .int .i32 r2, .int .i32 r3, .int .u8 r4, .int .u8 r5, .int .u8 r6, .int .u8 r7], .bool r8]) ∧ Below w.heap.size w w' := by
  have hI : Index2 Try.prog 86 := fun c1 c2 A w hC => by
    have h : slices_Index_rune_rune.f 4 [c1, c2] 0 = some (index2 c1 c2) := by
      unfold index2
      by_cases h1 : c1 = 0
      · simp [slices_Index_rune_rune.f, slices_Index_rune_rune.l0, rd, h1]
      · by_cases h2 : c2 = 0
        · simp [slices_Index_rune_rune.f, slices_Index_rune_rune.l0, rd, h1, Ne.symm h1, h2, wrap64]
        · simp [slices_Index_rune_rune.f, slices_Index_rune_rune.l0, rd, h1, h2, Ne.symm h1, Ne.symm h2, wrap64]
    refine (slices_Index_rune_rune.calls 4 A 2 [c1, c2] 0 _ w hC (by simp) h).mono ?_
    rintro e w' ⟨rfl, ⟨nd, hd⟩⟩
    exact ⟨rfl, nd, hd⟩
  exact mark_walk hI (fun r w => width_Mark.calls r _ w rfl) _ _ _ _ _ _ _ _ _ _ _ _ _ _ _ _ w (Option.some.inj h)

def line_Mark.j0 : Nat → List (S26) → Int → Int → List (S26) → Bool → Option ((List (S26)) × Bool)
  | 0, _, _, _, _, _ => none
  | k + 1, x0, x1, x2, x8, x20 => if x20 = true then (some (x8, false)) else (if 0 ≤ x1 then (if x1 < (x0.length : Int) then (if ((rd_T26 x0 x1).f2) = 0 then (if x1 > 0 then (if 0 ≤ (wrap64 (x1 - 1)) then (if (wrap64 (x1 - 1)) < (x0.length : Int) then (if ((rd_T26 x0 (wrap64 (x1 - 1))).f2) = 2 then ((cell_Mark.f ((rd_T26 x0 (wrap64 (x1 - 1))).f0) ((rd_T26 x0 (wrap64 (x1 - 1))).f1.f0) ((rd_T26 x0 (wrap64 (x1 - 1))).f1.f1) ((rd_T26 x0 (wrap64 (x1 - 1))).f2) ((rd_T26 x0 (wrap64 (x1 - 1))).f3.f0) ((rd_T26 x0 (wrap64 (x1 - 1))).f3.f1) ((rd_T26 x0 (wrap64 (x1 - 1))).f3.f2) x2).bind fun bt306 => (if (wrap64 (x1 - 1)) < (x8.length : Int) then (some ((x8.set ((wrap64 (x1 - 1)) : Int).toNat (⟨bt306.1, (⟨bt306.2.1, bt306.2.2.1⟩ : S22), bt306.2.2.2.1, (⟨bt306.2.2.2.2.1, bt306.2.2.2.2.2.1, bt306.2.2.2.2.2.2.1⟩ : S24)⟩ : S26)), bt306.2.2.2.2.2.2.2)) else (none))) else ((cell_Mark.f ((rd_T26 x0 x1).f0) ((rd_T26 x0 x1).f1.f0) ((rd_T26 x0 x1).f1.f1) ((rd_T26 x0 x1).f2) ((rd_T26 x0 x1).f3.f0) ((rd_T26 x0 x1).f3.f1) ((rd_T26 x0 x1).f3.f2) x2).bind fun bt317 => (if x1 < (x8.length : Int) then (some ((x8.set (x1 : Int).toNat (⟨bt317.1, (⟨bt317.2.1, bt317.2.2.1⟩ : S22), bt317.2.2.2.1, (⟨bt317.2.2.2.2.1, bt317.2.2.2.2.2.1, bt317.2.2.2.2.2.2.1⟩ : S24)⟩ : S26)), bt317.2.2.2.2.2.2.2)) else (none)))) else (none)) else (none)) else ((cell_Mark.f ((rd_T26 x0 x1).f0) ((rd_T26 x0 x1).f1.f0) ((rd_T26 x0 x1).f1.f1) ((rd_T26 x0 x1).f2) ((rd_T26 x0 x1).f3.f0) ((rd_T26 x0 x1).f3.f1) ((rd_T26 x0 x1).f3.f2) x2).bind fun bt328 => (if x1 < (x8.length : Int) then (some ((x8.set (x1 : Int).toNat (⟨bt328.1, (⟨bt328.2.1, bt328.2.2.1⟩ : S22), bt328.2.2.2.1, (⟨bt328.2.2.2.2.1, bt328.2.2.2.2.2.1, bt328.2.2.2.2.2.2.1⟩ : S24)⟩ : S26)), bt328.2.2.2.2.2.2.2)) else (none)))) else ((cell_Mark.f ((rd_T26 x0 x1).f0) ((rd_T26 x0 x1).f1.f0) ((rd_T26 x0 x1).f1.f1) ((rd_T26 x0 x1).f2) ((rd_T26 x0 x1).f3.f0) ((rd_T26 x0 x1).f3.f1) ((rd_T26 x0 x1).f3.f2) x2).bind fun bt339 => (if x1 < (x8.length : Int) then (some ((x8.set (x1 : Int).toNat (⟨bt339.1, (⟨bt339.2.1, bt339.2.2.1⟩ : S22), bt339.2.2.2.1, (⟨bt339.2.2.2.2.1, bt339.2.2.2.2.2.1, bt339.2.2.2.2.2.2.1⟩ : S24)⟩ : S26)), bt339.2.2.2.2.2.2.2)) else (none)))) else (none)) else (none))
def line_Mark.f (k : Nat) (l0 : List (S26)) (a1 : Int) (a2 : Int) : Option ((List (S26)) × Bool) := (cell_Cell_95.f l0).bind fun t300 => (if a1 < 0 then (line_Mark.j0 k l0 a1 a2 t300 true) else (line_Mark.j0 k l0 a1 a2 t300 (decide (a1 ≥ (l0.length : Int)))))
set_option maxHeartbeats 8000000 in
set_option maxRecDepth 100000 in
theorem line_Mark.calls (k : Nat) (A0 : Option Addr) (c0 : Nat) (l0 : List (S26)) (a1 : Int) (a2 : Int) (r1 : List (S26)) (r2 : Bool) (w : World) (hr0 : Kd.C k26 w A0 l0.length l0) (hc0 : l0.length ≤ c0) (h : line_Mark.f k l0 a1 a2 = some (r1, r2)) :
    Calls Try.prog 44 #[.slice A0 l0.length c0, .int .i64 a1, .int .i32 a2] w fun e w' => ∃ v0_ : Value, e = .returned (.tuple #[v0_, .bool r2]) ∧ Kd.R k26 26 w' w.heap.size (fun _ => True) v0_ r1 ∧ Below w.heap.size w w' := by
  have hu26 := Try.underlying26
  have HR0 := Aside0.mk hr0
  have HC0 := Aside0.mk hc0
  clear hr0 hc0
  have HB := aS (Below.refl w.heap.size w)
  have H : ((cell_Cell_95.f l0).bind fun t300 => (if a1 < 0 then (line_Mark.j0 k l0 a1 a2 t300 true) else (line_Mark.j0 k l0 a1 a2 t300 (decide (a1 ≥ (l0.length : Int)))))) = some (r1, r2) := h
  clear h
  replace H := Option.bind_eq_some_iff.mp H
  obtain ⟨t300, A40, H⟩ := H
  try dsimp only at H
  have A4 := Aside0.mk A40
  clear A40
  have HC5 := Aside0.mk H
  clear H
  go_enter Try.func44, Try.ntmps44
  go_upto_region 2 with (first | ((with_reducible refine gate_callee (f := 95) rfl ?_); refine goesL_ (some 12) rfl rfl Try.func95 (by kernel_rfl) rfl #[.slice A0 l0.length c0] rfl (by (try simp only [List.map_toArray, List.map_cons, List.map_nil]); first | done | rfl | (simp only [List.length_drop, List.length_take]; rfl)) ?_; (with_reducible refine (cell_Cell_95.calls _ _ l0 t300 _ ?side1 ?side2 A4.out).mono ?_); (case side1 => repeat (first | exact HR0.out | (with_reducible refine Kd.C_alloc ?_ _) | (with_reducible refine Kd.C_drewN ?_ _) | (with_reducible refine Kd.C_drew ?_))); (case side2 => exact HC0.out); rintro e w6 ⟨v301, rfl, ho0, hb⟩; refine ⟨_, rfl, ?_⟩; have n0_ := aS (Kd.R_lower ho0 (below_size (by repeat (first | (with_reducible first | exact HB.out | apply lA | apply lN | apply lD) | exact HB.out)))); have n1_ := aS (below_step (by repeat (first | (with_reducible first | exact HB.out | apply lA | apply lN | apply lD) | exact HB.out)) hb); clear HB; have HO302 := n0_; have HB := n1_; clear n0_ n1_; (try clear hb); (try clear hb2); (try clear hk); (try clear hi); (try clear ho0)))
  (try simp only [Act.put, List.setIfInBounds_toArray, List.set_cons_zero, List.set_cons_succ])
  go_cut [20] (fun v20 wc => ∃ (kq : Nat) (x20_4 : Bool), v20 = .bool x20_4 ∧ Aside0 (line_Mark.j0 kq l0 a1 a2 t300 x20_4 = some (r1, r2)) ∧ Aside0 (kq ≤ k) ∧ Aside0 (Kd.R k26 26 wc w.heap.size (fun _ => True) v301 t300) ∧ Aside0 (Below w.heap.size w wc))
  case first =>
    have H := HC5.out
    clear HC5
    by_cases c7 : a1 < 0
    · rw [if_pos c7] at H
      have c7b0 : decide (a1 < 0) = true := decide_eq_true c7
      clear c7
      (first | rw [c7b0] | (simp only [i64_w, i32_w]; rw [c7b0]) | skip)
      have H' := Aside0.mk H
      clear H
      go_wp2
      go_meet
      case rel => exact ⟨_, (true), (by first | rfl | (simp; done) | (simp [*]; done)), H', ⟨by first | omega | exact Nat.le_refl _⟩, ⟨by (with_reducible repeat (first | apply rA | apply rN | apply rD)); exact HO302.out⟩, ⟨by repeat (first | (with_reducible first | exact HB.out | apply lA | apply lN | apply lD) | exact HB.out)⟩⟩
    · rw [if_neg c7] at H
      have c7b0 : decide (a1 < 0) = false := decide_eq_false c7
      clear c7
      (first | rw [c7b0] | (simp only [i64_w, i32_w]; rw [c7b0]) | skip)
      have H' := Aside0.mk H
      clear H
      go_wp2
      go_meet
      case rel => exact ⟨_, (decide (a1 ≥ (l0.length : Int))), (by first | rfl | (simp; done) | (simp [*]; done)), H', ⟨by first | omega | exact Nat.le_refl _⟩, ⟨by (with_reducible repeat (first | apply rA | apply rN | apply rD)); exact HO302.out⟩, ⟨by repeat (first | (with_reducible first | exact HB.out | apply lA | apply lN | apply lD) | exact HB.out)⟩⟩
  case rest =>
    clear HC5
    try clear p2
    try clear c4
    try clear c7
    try clear c7b0
    obtain ⟨kq, x20_4, rfl, HA, HJ4, HO_8, HB⟩ := hcut
    cases kq with
    | zero => exact absurd HA.out (by simp [line_Mark.j0])
    | succ kj4 =>
      have H := HA.out
      clear HA
      simp only [line_Mark.j0] at H
      by_cases c8 : x20_4 = true
      · subst c8
        have H1 : (some (t300, false)) = some (r1, r2) := by rw [if_pos rfl] at H; exact H
        clear H
        have H := H1
        clear H1
        simp only [Option.some.injEq, Prod.mk.injEq] at H
        obtain ⟨rfl, rfl⟩ := H
        go_wp2
        go_ret2
        exact ⟨_, by first | rfl | (simp <;> rfl) | (simp [*] <;> rfl), by (with_reducible repeat (first | apply rA | apply rN | apply rD)); exact HO_8.out, by repeat (first | (with_reducible first | exact HB.out | apply lA | apply lN | apply lD) | exact HB.out)⟩
      · replace c8 := Bool.eq_false_iff.mpr c8
        subst c8
        have H1 : (if 0 ≤ a1 then (if a1 < (l0.length : Int) then (if ((rd_T26 l0 a1).f2) = 0 then (if a1 > 0 then (if 0 ≤ (wrap64 (a1 - 1)) then (if (wrap64 (a1 - 1)) < (l0.length : Int) then (if ((rd_T26 l0 (wrap64 (a1 - 1))).f2) = 2 then ((cell_Mark.f ((rd_T26 l0 (wrap64 (a1 - 1))).f0) ((rd_T26 l0 (wrap64 (a1 - 1))).f1.f0) ((rd_T26 l0 (wrap64 (a1 - 1))).f1.f1) ((rd_T26 l0 (wrap64 (a1 - 1))).f2) ((rd_T26 l0 (wrap64 (a1 - 1))).f3.f0) ((rd_T26 l0 (wrap64 (a1 - 1))).f3.f1) ((rd_T26 l0 (wrap64 (a1 - 1))).f3.f2) a2).bind fun bt306 => (if (wrap64 (a1 - 1)) < (t300.length : Int) then (some ((t300.set ((wrap64 (a1 - 1)) : Int).toNat (⟨bt306.1, (⟨bt306.2.1, bt306.2.2.1⟩ : S22), bt306.2.2.2.1, (⟨bt306.2.2.2.2.1, bt306.2.2.2.2.2.1, bt306.2.2.2.2.2.2.1⟩ : S24)⟩ : S26)), bt306.2.2.2.2.2.2.2)) else (none))) else ((cell_Mark.f ((rd_T26 l0 a1).f0) ((rd_T26 l0 a1).f1.f0) ((rd_T26 l0 a1).f1.f1) ((rd_T26 l0 a1).f2) ((rd_T26 l0 a1).f3.f0) ((rd_T26 l0 a1).f3.f1) ((rd_T26 l0 a1).f3.f2) a2).bind fun bt317 => (if a1 < (t300.length : Int) then (some ((t300.set (a1 : Int).toNat (⟨bt317.1, (⟨bt317.2.1, bt317.2.2.1⟩ : S22), bt317.2.2.2.1, (⟨bt317.2.2.2.2.1, bt317.2.2.2.2.2.1, bt317.2.2.2.2.2.2.1⟩ : S24)⟩ : S26)), bt317.2.2.2.2.2.2.2)) else (none)))) else (none)) else (none)) else ((cell_Mark.f ((rd_T26 l0 a1).f0) ((rd_T26 l0 a1).f1.f0) ((rd_T26 l0 a1).f1.f1) ((rd_T26 l0 a1).f2) ((rd_T26 l0 a1).f3.f0) ((rd_T26 l0 a1).f3.f1) ((rd_T26 l0 a1).f3.f2) a2).bind fun bt328 => (if a1 < (t300.length : Int) then (some ((t300.set (a1 : Int).toNat (⟨bt328.1, (⟨bt328.2.1, bt328.2.2.1⟩ : S22), bt328.2.2.2.1, (⟨bt328.2.2.2.2.1, bt328.2.2.2.2.2.1, bt328.2.2.2.2.2.2.1⟩ : S24)⟩ : S26)), bt328.2.2.2.2.2.2.2)) else (none)))) else ((cell_Mark.f ((rd_T26 l0 a1).f0) ((rd_T26 l0 a1).f1.f0) ((rd_T26 l0 a1).f1.f1) ((rd_T26 l0 a1).f2) ((rd_T26 l0 a1).f3.f0) ((rd_T26 l0 a1).f3.f1) ((rd_T26 l0 a1).f3.f2) a2).bind fun bt339 => (if a1 < (t300.length : Int) then (some ((t300.set (a1 : Int).toNat (⟨bt339.1, (⟨bt339.2.1, bt339.2.2.1⟩ : S22), bt339.2.2.2.1, (⟨bt339.2.2.2.2.1, bt339.2.2.2.2.2.1, bt339.2.2.2.2.2.2.1⟩ : S24)⟩ : S26)), bt339.2.2.2.2.2.2.2)) else (none)))) else (none)) else (none)) = some (r1, r2) := by rw [if_neg (show ¬ (false = true) by decide)] at H; exact H
        clear H
        have H := H1
        clear H1
        by_cases c9 : 0 ≤ a1
        · rw [if_pos c9] at H
          have c9b0 : decide (0 ≤ a1) = true := decide_eq_true c9
          clear c9
          by_cases c10 : a1 < (l0.length : Int)
          · rw [if_pos c10] at H
            have c10b0 : decide (a1 < (l0.length : Int)) = true := decide_eq_true c10
            clear c10
            by_cases c11 : ((rd_T26 l0 a1).f2) = 0
            · rw [if_pos c11] at H
              have c11b0 : (((rd_T26 l0 a1).f2) == 0) = true := beq_iff_eq.mpr c11
              have c11b1 : (((rd_T26 l0 a1).f2) != 0) = false := bne_eq_false_iff_eq.mpr c11
              clear c11
              by_cases c12 : a1 > 0
              · rw [if_pos c12] at H
                have c12b0 : decide (0 < a1) = true := decide_eq_true c12
                clear c12
                obtain ⟨ji13, hji13⟩ : ∃ j_ : Int, (wrap64 (a1 - 1)) = j_ := ⟨_, rfl⟩
                replace H : (if 0 ≤ (ji13) then (if (ji13) < (l0.length : Int) then (if ((rd_T26 l0 (ji13)).f2) = 2 then ((cell_Mark.f ((rd_T26 l0 (ji13)).f0) ((rd_T26 l0 (ji13)).f1.f0) ((rd_T26 l0 (ji13)).f1.f1) ((rd_T26 l0 (ji13)).f2) ((rd_T26 l0 (ji13)).f3.f0) ((rd_T26 l0 (ji13)).f3.f1) ((rd_T26 l0 (ji13)).f3.f2) a2).bind fun bt306 => (if (ji13) < (t300.length : Int) then (some ((t300.set ((ji13) : Int).toNat (⟨bt306.1, (⟨bt306.2.1, bt306.2.2.1⟩ : S22), bt306.2.2.2.1, (⟨bt306.2.2.2.2.1, bt306.2.2.2.2.2.1, bt306.2.2.2.2.2.2.1⟩ : S24)⟩ : S26)), bt306.2.2.2.2.2.2.2)) else (none))) else ((cell_Mark.f ((rd_T26 l0 a1).f0) ((rd_T26 l0 a1).f1.f0) ((rd_T26 l0 a1).f1.f1) ((rd_T26 l0 a1).f2) ((rd_T26 l0 a1).f3.f0) ((rd_T26 l0 a1).f3.f1) ((rd_T26 l0 a1).f3.f2) a2).bind fun bt317 => (if a1 < (t300.length : Int) then (some ((t300.set (a1 : Int).toNat (⟨bt317.1, (⟨bt317.2.1, bt317.2.2.1⟩ : S22), bt317.2.2.2.1, (⟨bt317.2.2.2.2.1, bt317.2.2.2.2.2.1, bt317.2.2.2.2.2.2.1⟩ : S24)⟩ : S26)), bt317.2.2.2.2.2.2.2)) else (none)))) else (none)) else (none)) = some (r1, r2) := by first | (rw [hji13] at H; exact H) | (simp only [hji13] at H ⊢; exact H)
                have hji13w : (IntKind.i64.wrap (a1 - 1)) = ji13 := (i64_w _).trans hji13
                by_cases c14 : 0 ≤ (ji13)
                · rw [if_pos c14] at H
                  have c14b0 : decide (0 ≤ (ji13)) = true := decide_eq_true c14
                  clear c14
                  by_cases c15 : (ji13) < (l0.length : Int)
                  · rw [if_pos c15] at H
                    have c15b0 : decide ((ji13) < (l0.length : Int)) = true := decide_eq_true c15
                    clear c15
                    by_cases c16 : ((rd_T26 l0 (ji13)).f2) = 2
                    · rw [if_pos c16] at H
                      have c16b0 : (((rd_T26 l0 (ji13)).f2) == 2) = true := beq_iff_eq.mpr c16
                      have c16b1 : (((rd_T26 l0 (ji13)).f2) != 2) = false := bne_eq_false_iff_eq.mpr c16
                      clear c16
                      replace H := Option.bind_eq_some_iff.mp H
                      obtain ⟨⟨t306, t307, t308, t309, t310, t311, t312, t313⟩, A170, H⟩ := H
                      try dsimp only at H
                      have A17 := Aside0.mk A170
                      clear A170
                      by_cases c18 : (ji13) < (t300.length : Int)
                      · rw [if_pos c18] at H
                        have c18b0 : decide ((ji13) < (t300.length : Int)) = true := decide_eq_true c18
                        clear c18
                        obtain ⟨y315, hy315⟩ : ∃ y_ : List (S26), y_ = (t300.set ((ji13) : Int).toNat (⟨t306, (⟨t307, t308⟩ : S22), t309, (⟨t310, t311, t312⟩ : S24)⟩ : S26)) := ⟨_, rfl⟩
                        replace H : (some (y315, t313)) = some (r1, r2) := by first | (rw [hy315]; with_reducible exact H) | (have H2_ := (Option.bind_some _ _).symm.trans H; rw [hy315]; with_reducible exact H2_) | (have H2_ := (Option.bind_some _ _).symm.trans H; with_reducible exact H2_) | with_reducible exact H | (rw [hy315]; exact H) | exact H
                        have Ny315 := Aside0.mk hy315
                        clear hy315
                        simp only [Option.some.injEq, Prod.mk.injEq] at H
                        obtain ⟨rfl, rfl⟩ := H
                        have p303 : 0 ≤ (a1 : Int) := of_decide_eq_true (by first | (with_reducible assumption) | assumption)
                        have q303 : a1 < (l0.length : Int) := of_decide_eq_true (by first | (with_reducible assumption) | assumption)
                        obtain ⟨ad303, e303, hx303_0, hx303_1, hx303_2, hx303_3, hx303_4, hx303_5, hx303_6⟩ := at_T26 HR0.out a1 p303 q303
                        cases e303
                        replace hx303_0 := (HB.out.cell (World.block_lt_of_cell? w _ hx303_0)).trans hx303_0
                        replace hx303_1 := (HB.out.cell (World.block_lt_of_cell? w _ hx303_1)).trans hx303_1
                        replace hx303_2 := (HB.out.cell (World.block_lt_of_cell? w _ hx303_2)).trans hx303_2
                        replace hx303_3 := (HB.out.cell (World.block_lt_of_cell? w _ hx303_3)).trans hx303_3
                        replace hx303_4 := (HB.out.cell (World.block_lt_of_cell? w _ hx303_4)).trans hx303_4
                        replace hx303_5 := (HB.out.cell (World.block_lt_of_cell? w _ hx303_5)).trans hx303_5
                        replace hx303_6 := (HB.out.cell (World.block_lt_of_cell? w _ hx303_6)).trans hx303_6
                        replace p303 := eq_true p303
                        replace q303 := eq_true q303
                        have p304 : 0 ≤ ((ji13) : Int) := of_decide_eq_true (by first | (with_reducible assumption) | assumption)
                        have q304 : (ji13) < (l0.length : Int) := of_decide_eq_true (by first | (with_reducible assumption) | assumption)
                        obtain ⟨ad304, e304, hx304_0, hx304_1, hx304_2, hx304_3, hx304_4, hx304_5, hx304_6⟩ := at_T26 HR0.out (ji13) p304 q304
                        obtain rfl : ad303 = ad304 := (by injection e304)
                        replace hx304_0 := (HB.out.cell (World.block_lt_of_cell? w _ hx304_0)).trans hx304_0
                        replace hx304_1 := (HB.out.cell (World.block_lt_of_cell? w _ hx304_1)).trans hx304_1
                        replace hx304_2 := (HB.out.cell (World.block_lt_of_cell? w _ hx304_2)).trans hx304_2
                        replace hx304_3 := (HB.out.cell (World.block_lt_of_cell? w _ hx304_3)).trans hx304_3
                        replace hx304_4 := (HB.out.cell (World.block_lt_of_cell? w _ hx304_4)).trans hx304_4
                        replace hx304_5 := (HB.out.cell (World.block_lt_of_cell? w _ hx304_5)).trans hx304_5
                        replace hx304_6 := (HB.out.cell (World.block_lt_of_cell? w _ hx304_6)).trans hx304_6
                        replace p304 := eq_true p304
                        replace q304 := eq_true q304
                        have p305 : 0 ≤ ((ji13) : Int) := of_decide_eq_true (by first | (with_reducible assumption) | assumption)
                        have q305 : (ji13) < (l0.length : Int) := of_decide_eq_true (by first | (with_reducible assumption) | assumption)
                        obtain ⟨ad305, e305, hx305_0, hx305_1, hx305_2, hx305_3, hx305_4, hx305_5, hx305_6⟩ := at_T26 HR0.out (ji13) p305 q305
                        obtain rfl : ad303 = ad305 := (by injection e305)
                        replace hx305_0 := (HB.out.cell (World.block_lt_of_cell? w _ hx305_0)).trans hx305_0
                        replace hx305_1 := (HB.out.cell (World.block_lt_of_cell? w _ hx305_1)).trans hx305_1
                        replace hx305_2 := (HB.out.cell (World.block_lt_of_cell? w _ hx305_2)).trans hx305_2
                        replace hx305_3 := (HB.out.cell (World.block_lt_of_cell? w _ hx305_3)).trans hx305_3
                        replace hx305_4 := (HB.out.cell (World.block_lt_of_cell? w _ hx305_4)).trans hx305_4
                        replace hx305_5 := (HB.out.cell (World.block_lt_of_cell? w _ hx305_5)).trans hx305_5
                        replace hx305_6 := (HB.out.cell (World.block_lt_of_cell? w _ hx305_6)).trans hx305_6
                        replace p305 := eq_true p305
                        replace q305 := eq_true q305
                        go_wp2_with (first | ((with_reducible refine gate_callee (f := 16) rfl ?_); refine goesL_ (some 49) rfl rfl Try.func16 (by kernel_rfl) rfl #[.agg #[.int .i32 ((rd_T26 l0 (ji13)).f0), .int .i32 ((rd_T26 l0 (ji13)).f1.f0), .int .i32 ((rd_T26 l0 (ji13)).f1.f1), .int .u8 ((rd_T26 l0 (ji13)).f2), .int .u8 ((rd_T26 l0 (ji13)).f3.f0), .int .u8 ((rd_T26 l0 (ji13)).f3.f1), .int .u8 ((rd_T26 l0 (ji13)).f3.f2)], .int .i32 a2] rfl (by (try simp only [List.map_toArray, List.map_cons, List.map_nil]); first | done | (simp only [hji13]; rfl) | rfl | (simp only [List.length_drop, List.length_take]; rfl)) ?_; (with_reducible refine (cell_Mark.calls ((rd_T26 l0 (ji13)).f0) ((rd_T26 l0 (ji13)).f1.f0) ((rd_T26 l0 (ji13)).f1.f1) ((rd_T26 l0 (ji13)).f2) ((rd_T26 l0 (ji13)).f3.f0) ((rd_T26 l0 (ji13)).f3.f1) ((rd_T26 l0 (ji13)).f3.f2) a2 t306 t307 t308 t309 t310 t311 t312 t313 _ A17.out).mono ?_); rintro e w20 ⟨rfl, hb⟩; refine ⟨_, rfl, ?_⟩; have n0_ := aS (Kd.R_below (by (with_reducible repeat (first | apply rA | apply rN | apply rD)); exact HO_8.out) hb); have n1_ := aS (below_step (by repeat (first | (with_reducible first | exact HB.out | apply lA | apply lN | apply lD) | exact HB.out)) hb); clear HO_8; clear HB; have HO_8 := n0_; have HB := n1_; clear n0_ n1_; (try clear hb); (try clear hb2); (try clear hk); (try clear hi)) | ((with_reducible refine gate_dst (N := 9) rfl ?_); (try (refine gate_guard (by rfl) ?_; dsimp only)); refine box_event ?hg (N := 9) ?hd (cs := #[.int .i32 0, .int .i32 0, .int .i32 0, .int .u8 0, .int .u8 0, .int .u8 0, .int .u8 0]) (t := 26) ?hr ?_; (case hd => rfl); (case hg => rfl); (case hr => first | (go_simp; done) | (go_simp; rfl)); intro gb314 hg w21 hbox hb; have n0_ := aS (Kd.R_below (Kd.R_elderB (by (with_reducible repeat (first | apply rA | apply rN | apply rD)); exact HO_8.out) gb314 (Nat.le_of_eq hg.symm)) hb); have n1_ := aS (below_step (by repeat (first | (with_reducible first | exact HB.out | apply lA | apply lN | apply lD) | exact HB.out)) hb); have n2_ := aS (hbox); have n3_ := aS ((by rw [hg]; exact (below_size (by repeat (first | (with_reducible first | exact HB.out | apply lA | apply lN | apply lD) | exact HB.out))) : w.heap.size ≤ gb314)); have n4_ := aS ((by rw [hg]; exact (below_size (by repeat (first | (with_reducible first | exact HB.out | apply lA | apply lN | apply lD) | exact HB.out))) : w.heap.size ≤ gb314)); clear HO_8; clear HB; have HO_8 := n0_; have HB := n1_; have BK314 := n2_; have GW314 := n3_; have GE314 := n4_; clear n0_ n1_ n2_ n3_ n4_; clear hb hbox hg; obtain ⟨hcz22_0, hcz22_1, hcz22_2, hcz22_3, hcz22_4, hcz22_5, hcz22_6, hfz22_0, hfz22_1, hfz22_2, hfz22_3, hfz22_4, hfz22_5, hfz22_6⟩ := cel7 BK314.out) | ((with_reducible refine gate_store (t := 26) (p := 9) rfl ?_); refine store_event (t := 26) (p := 9) (v := ?vo_w23) (w1 := (((((((w21.setCell ⟨gb314, 0, none⟩ (.int .i32 t306)).setCell ⟨gb314, 1, none⟩ (.int .i32 t307)).setCell ⟨gb314, 2, none⟩ (.int .i32 t308)).setCell ⟨gb314, 3, none⟩ (.int .u8 t309)).setCell ⟨gb314, 4, none⟩ (.int .u8 t310)).setCell ⟨gb314, 5, none⟩ (.int .u8 t311)).setCell ⟨gb314, 6, none⟩ (.int .u8 t312))) ?hg ?ho ?hn ?hr ?_; (case ho => rfl); (case hg => rfl); (case hn => rfl); (case hr => first | (go_simp; done) | (go_simp; rfl)); intro w23 hw; have n0_ : Aside0 (Kd.R k26 26 w23 w.heap.size (fun k_ => k_ ≠ gb314) v301 t300) := ⟨(by rw [hw]; exact (by (with_reducible repeat (first | apply rA | apply rN | apply rD)); exact Kd.R_mono (Kd.R_far (p := ⟨gb314, 6, none⟩) (Kd.R_far (p := ⟨gb314, 5, none⟩) (Kd.R_far (p := ⟨gb314, 4, none⟩) (Kd.R_far (p := ⟨gb314, 3, none⟩) (Kd.R_far (p := ⟨gb314, 2, none⟩) (Kd.R_far (p := ⟨gb314, 1, none⟩) (Kd.R_far (p := ⟨gb314, 0, none⟩) (Kd.R_mono HO_8.out (fun k_ hk => (⟨hk, hk.2⟩ : _ ∧ k_ ≠ gb314))) (fun _ hk => hk.2) (.int .i32 t306)) (fun _ hk => hk.2) (.int .i32 t307)) (fun _ hk => hk.2) (.int .i32 t308)) (fun _ hk => hk.2) (.int .u8 t309)) (fun _ hk => hk.2) (.int .u8 t310)) (fun _ hk => hk.2) (.int .u8 t311)) (fun _ hk => hk.2) (.int .u8 t312)) (fun _ hk => hk.1.2)))⟩; have n1_ : Aside0 (w23.heap[gb314]? = some (.cells #[.int .i32 t306, .int .i32 t307, .int .i32 t308, .int .u8 t309, .int .u8 t310, .int .u8 t311, .int .u8 t312] 26 (0, 0))) := ⟨(by rw [hw]; exact (by (with_reducible repeat (first | apply bN | apply bD | apply bA)); refine blk_put (cs := #[.int .i32 t306, .int .i32 t307, .int .i32 t308, .int .u8 t309, .int .u8 t310, .int .u8 t311, .int .u8 0]) ?_ 6 _ rfl; refine blk_put (cs := #[.int .i32 t306, .int .i32 t307, .int .i32 t308, .int .u8 t309, .int .u8 t310, .int .u8 0, .int .u8 0]) ?_ 5 _ rfl; refine blk_put (cs := #[.int .i32 t306, .int .i32 t307, .int .i32 t308, .int .u8 t309, .int .u8 0, .int .u8 0, .int .u8 0]) ?_ 4 _ rfl; refine blk_put (cs := #[.int .i32 t306, .int .i32 t307, .int .i32 t308, .int .u8 0, .int .u8 0, .int .u8 0, .int .u8 0]) ?_ 3 _ rfl; refine blk_put (cs := #[.int .i32 t306, .int .i32 t307, .int .i32 0, .int .u8 0, .int .u8 0, .int .u8 0, .int .u8 0]) ?_ 2 _ rfl; refine blk_put (cs := #[.int .i32 t306, .int .i32 0, .int .i32 0, .int .u8 0, .int .u8 0, .int .u8 0, .int .u8 0]) ?_ 1 _ rfl; refine blk_put (cs := #[.int .i32 0, .int .i32 0, .int .i32 0, .int .u8 0, .int .u8 0, .int .u8 0, .int .u8 0]) ?_ 0 _ rfl; (with_reducible repeat (first | apply bN | apply bD | apply bA)); exact BK314.out))⟩; have n2_ : Aside0 (Below w.heap.size w w23) := ⟨(by rw [hw]; exact (by repeat (first | (with_reducible first | exact HB.out | apply lA | apply lN | apply lD | refine below_set ?_ GE314.out) | exact HB.out)))⟩; clear hw; clear HO_8; clear BK314; clear HB; have HO_8 := n0_; have BK314 := n1_; have HB := n2_; clear n0_ n1_ n2_; obtain ⟨hcz24_0, hcz24_1, hcz24_2, hcz24_3, hcz24_4, hcz24_5, hcz24_6, hfz24_0, hfz24_1, hfz24_2, hfz24_3, hfz24_4, hfz24_5, hfz24_6⟩ := cel7 BK314.out; have p19 : 0 ≤ ((ji13) : Int) := of_decide_eq_true (by first | (with_reducible assumption) | assumption); have q19 : ((ji13) : Int) < ((t300.length : Int) : Int) := of_decide_eq_true (by first | (with_reducible assumption) | assumption); obtain ⟨go19, co19, eo19, gb19, gl19, cl19, HG19⟩ := Kd.R_form HO_8.out (by omega); (first | cases eo19 | (injection eo19 with ea_ en_ ec_; (first | subst ea_ | (injection ea_ with ea_; subst ea_)); subst ec_; clear en_)); have GB19 := Aside0.mk gb19; have GG19 := Aside0.mk HG19; clear gb19 gl19 HG19; obtain ⟨ce19, hcl19, hM19, hcc19, hfr19⟩ := Kd.R_elem HO_8.out z26 ((ji13) : Int) p19 q19; obtain rfl := k26_openM hM19; have hx19_0 : w23.cell? ⟨go19, ((ji13) : Int).toNat * 7, none⟩ = some (.int .i32 ((rd_T26 t300 (ji13)).f0)) := hcc19 0 _ rfl; have hx19_1 : w23.cell? ⟨go19, ((ji13) : Int).toNat * 7 + 1, none⟩ = some (.int .i32 ((rd_T26 t300 (ji13)).f1.f0)) := hcc19 1 _ rfl; have hx19_2 : w23.cell? ⟨go19, ((ji13) : Int).toNat * 7 + 2, none⟩ = some (.int .i32 ((rd_T26 t300 (ji13)).f1.f1)) := hcc19 2 _ rfl; have hx19_3 : w23.cell? ⟨go19, ((ji13) : Int).toNat * 7 + 3, none⟩ = some (.int .u8 ((rd_T26 t300 (ji13)).f2)) := hcc19 3 _ rfl; have hx19_4 : w23.cell? ⟨go19, ((ji13) : Int).toNat * 7 + 4, none⟩ = some (.int .u8 ((rd_T26 t300 (ji13)).f3.f0)) := hcc19 4 _ rfl; have hx19_5 : w23.cell? ⟨go19, ((ji13) : Int).toNat * 7 + 5, none⟩ = some (.int .u8 ((rd_T26 t300 (ji13)).f3.f1)) := hcc19 5 _ rfl; have hx19_6 : w23.cell? ⟨go19, ((ji13) : Int).toNat * 7 + 6, none⟩ = some (.int .u8 ((rd_T26 t300 (ji13)).f3.f2)) := hcc19 6 _ rfl; have hf19_0 : w23.frozen? ⟨go19, ((ji13) : Int).toNat * 7, none⟩ = false := hfr19 0; have hf19_1 : w23.frozen? ⟨go19, ((ji13) : Int).toNat * 7 + 1, none⟩ = false := hfr19 1; have hf19_2 : w23.frozen? ⟨go19, ((ji13) : Int).toNat * 7 + 2, none⟩ = false := hfr19 2; have hf19_3 : w23.frozen? ⟨go19, ((ji13) : Int).toNat * 7 + 3, none⟩ = false := hfr19 3; have hf19_4 : w23.frozen? ⟨go19, ((ji13) : Int).toNat * 7 + 4, none⟩ = false := hfr19 4; have hf19_5 : w23.frozen? ⟨go19, ((ji13) : Int).toNat * 7 + 5, none⟩ = false := hfr19 5; have hf19_6 : w23.frozen? ⟨go19, ((ji13) : Int).toNat * 7 + 6, none⟩ = false := hfr19 6; clear hcl19 hcc19 hfr19 hM19; replace p19 := eq_true p19; replace q19 := eq_true q19; have HX25 := aS (show Kd.R k26 26 w23 w.heap.size (fun k_ => k_ ≠ gb314) (.slice (some ⟨go19, 0, none⟩) t300.length co19) t300 from (by (with_reducible repeat (first | apply rA | apply rN | apply rD)); exact HO_8.out)); obtain ⟨ce25, hcl25, hM25, hcc25, hfr25⟩ := Kd.R_elem HX25.out z26 ((ji13) : Int) (of_decide_eq_true (by first | (with_reducible assumption) | assumption)) (by have h_ : ((ji13) : Int) < ((t300.length : Int) : Int) := of_decide_eq_true (by first | (with_reducible assumption) | assumption); first | exact h_ | (have e_ := (Kd.R_reads' HO_8.out).1; omega) | simpa using h_); obtain rfl := k26_openM hM25; have HP25 := Kd.R_seg HX25.out ((ji13) : Int) (of_decide_eq_true (by first | (with_reducible assumption) | assumption)) (by have h_ : ((ji13) : Int) < ((t300.length : Int) : Int) := of_decide_eq_true (by first | (with_reducible assumption) | assumption); first | exact h_ | (have e_ := (Kd.R_reads' HO_8.out).1; omega) | simpa using h_) (seg := [.int .i32 t306, .int .i32 t307, .int .i32 t308, .int .u8 t309, .int .u8 t310, .int .u8 t311, .int .u8 t312]) (j := 0) hcl25 hcc25 (show 7 ≤ 7 from by decide) (x' := (⟨t306, (⟨t307, t308⟩ : S22), t309, (⟨t310, t311, t312⟩ : S24)⟩ : S26)) (k26_mkM _ _ _ (⟨t306, (⟨t307, t308⟩ : S22), t309, (⟨t310, t311, t312⟩ : S24)⟩ : S26) ) (fun _ hk => hk); have hx25_0 := hcc25 0 _ rfl; (try simp only [show (k26).sz = 7 from rfl, Nat.mul_one, Nat.add_zero] at hx25_0); have hf25_0 := hfr25 0; (try simp only [show (k26).sz = 7 from rfl, Nat.mul_one, Nat.add_zero] at hf25_0); have hx25_1 := hcc25 1 _ rfl; (try simp only [show (k26).sz = 7 from rfl, Nat.mul_one, Nat.add_zero] at hx25_1); have hf25_1 := hfr25 1; (try simp only [show (k26).sz = 7 from rfl, Nat.mul_one, Nat.add_zero] at hf25_1); have hx25_2 := hcc25 2 _ rfl; (try simp only [show (k26).sz = 7 from rfl, Nat.mul_one, Nat.add_zero] at hx25_2); have hf25_2 := hfr25 2; (try simp only [show (k26).sz = 7 from rfl, Nat.mul_one, Nat.add_zero] at hf25_2); have hx25_3 := hcc25 3 _ rfl; (try simp only [show (k26).sz = 7 from rfl, Nat.mul_one, Nat.add_zero] at hx25_3); have hf25_3 := hfr25 3; (try simp only [show (k26).sz = 7 from rfl, Nat.mul_one, Nat.add_zero] at hf25_3); have hx25_4 := hcc25 4 _ rfl; (try simp only [show (k26).sz = 7 from rfl, Nat.mul_one, Nat.add_zero] at hx25_4); have hf25_4 := hfr25 4; (try simp only [show (k26).sz = 7 from rfl, Nat.mul_one, Nat.add_zero] at hf25_4); have hx25_5 := hcc25 5 _ rfl; (try simp only [show (k26).sz = 7 from rfl, Nat.mul_one, Nat.add_zero] at hx25_5); have hf25_5 := hfr25 5; (try simp only [show (k26).sz = 7 from rfl, Nat.mul_one, Nat.add_zero] at hf25_5); have hx25_6 := hcc25 6 _ rfl; (try simp only [show (k26).sz = 7 from rfl, Nat.mul_one, Nat.add_zero] at hx25_6); have hf25_6 := hfr25 6; (try simp only [show (k26).sz = 7 from rfl, Nat.mul_one, Nat.add_zero] at hf25_6); clear hcl25 hcc25 hfr25 hM25) | ((with_reducible refine gate_store (t := 26) (p := 55) rfl ?_); refine store_event (t := 26) (p := 55) (v := ?vo_w26) (w1 := (((((((w23.setCell ⟨go19, ((ji13) : Int).toNat * 7, none⟩ (.int .i32 t306)).setCell ⟨go19, ((ji13) : Int).toNat * 7 + 1, none⟩ (.int .i32 t307)).setCell ⟨go19, ((ji13) : Int).toNat * 7 + 2, none⟩ (.int .i32 t308)).setCell ⟨go19, ((ji13) : Int).toNat * 7 + 3, none⟩ (.int .u8 t309)).setCell ⟨go19, ((ji13) : Int).toNat * 7 + 4, none⟩ (.int .u8 t310)).setCell ⟨go19, ((ji13) : Int).toNat * 7 + 5, none⟩ (.int .u8 t311)).setCell ⟨go19, ((ji13) : Int).toNat * 7 + 6, none⟩ (.int .u8 t312))) ?hg ?ho ?hn ?hr ?_; (case ho => rfl); (case hg => rfl); (case hn => rfl); (case hr => first | (go_simp; done) | (go_simp; rfl)); intro w26 hw; have hg : w23.grownBy w26 (some go19) := (by rw [hw]; exact HP25.2); have hp_ : Kd.R k26 26 w26 w.heap.size (fun k_ => k_ ≠ gb314) (.slice (some ⟨go19, 0, none⟩) t300.length co19) y315 := (by rw [hw, Ny315.out]; exact HP25.1); clear HP25; have n0_ := aS (hp_); have n1_ := aS (blk_grown (g := gb314) (o := .cells #[.int .i32 t306, .int .i32 t307, .int .i32 t308, .int .u8 t309, .int .u8 t310, .int .u8 t311, .int .u8 t312] 26 (0, 0)) (by (with_reducible repeat (first | apply bN | apply bD | apply bA)); exact BK314.out) hg (Kd.R_away HO_8.out (fun _ hk => hk))); have n2_ := aS ((by rw [hw]; exact below_set (below_set (below_set (below_set (below_set (below_set (below_set (HB.out) GB19.out) GB19.out) GB19.out) GB19.out) GB19.out) GB19.out) GB19.out : Below w.heap.size w w26)); clear HO_8; clear BK314; clear HB; have HO_8 := n0_; have BK314 := n1_; have HB := n2_; clear n0_ n1_ n2_; clear hg hw hp_))
                        go_ret2
                        exact ⟨_, by first | rfl | (simp <;> rfl) | (simp only [← hji13]; first | rfl | (simp <;> rfl)) | (simp [*] <;> rfl), by (with_reducible repeat (first | apply rA | apply rN | apply rD)); exact Kd.R_mono HO_8.out (fun _ hk => trivial), by repeat (first | (with_reducible first | exact HB.out | apply lA | apply lN | apply lD | refine below_set ?_ GE314.out) | exact HB.out)⟩
                      · rw [if_neg c18] at H
                        exact absurd H (by simp)
                    · rw [if_neg c16] at H
                      have c16b0 : (((rd_T26 l0 (ji13)).f2) == 2) = false := beq_eq_false_iff_ne.mpr c16
                      have c16b1 : (((rd_T26 l0 (ji13)).f2) != 2) = true := bne_iff_ne.mpr c16
                      replace H := Option.bind_eq_some_iff.mp H
                      obtain ⟨⟨t317, t318, t319, t320, t321, t322, t323, t324⟩, A270, H⟩ := H
                      try dsimp only at H
                      have A27 := Aside0.mk A270
                      clear A270
                      by_cases c28 : a1 < (t300.length : Int)
                      · rw [if_pos c28] at H
                        have c28b0 : decide (a1 < (t300.length : Int)) = true := decide_eq_true c28
                        clear c28
                        obtain ⟨y326, hy326⟩ : ∃ y_ : List (S26), y_ = (t300.set (a1 : Int).toNat (⟨t317, (⟨t318, t319⟩ : S22), t320, (⟨t321, t322, t323⟩ : S24)⟩ : S26)) := ⟨_, rfl⟩
                        replace H : (some (y326, t324)) = some (r1, r2) := by first | (rw [hy326]; with_reducible exact H) | (have H2_ := (Option.bind_some _ _).symm.trans H; rw [hy326]; with_reducible exact H2_) | (have H2_ := (Option.bind_some _ _).symm.trans H; with_reducible exact H2_) | with_reducible exact H | (rw [hy326]; exact H) | exact H
                        have Ny326 := Aside0.mk hy326
                        clear hy326
                        simp only [Option.some.injEq, Prod.mk.injEq] at H
                        obtain ⟨rfl, rfl⟩ := H
                        have p303 : 0 ≤ (a1 : Int) := of_decide_eq_true (by first | (with_reducible assumption) | assumption)
                        have q303 : a1 < (l0.length : Int) := of_decide_eq_true (by first | (with_reducible assumption) | assumption)
                        obtain ⟨ad303, e303, hx303_0, hx303_1, hx303_2, hx303_3, hx303_4, hx303_5, hx303_6⟩ := at_T26 HR0.out a1 p303 q303
                        cases e303
                        replace hx303_0 := (HB.out.cell (World.block_lt_of_cell? w _ hx303_0)).trans hx303_0
                        replace hx303_1 := (HB.out.cell (World.block_lt_of_cell? w _ hx303_1)).trans hx303_1
                        replace hx303_2 := (HB.out.cell (World.block_lt_of_cell? w _ hx303_2)).trans hx303_2
                        replace hx303_3 := (HB.out.cell (World.block_lt_of_cell? w _ hx303_3)).trans hx303_3
                        replace hx303_4 := (HB.out.cell (World.block_lt_of_cell? w _ hx303_4)).trans hx303_4
                        replace hx303_5 := (HB.out.cell (World.block_lt_of_cell? w _ hx303_5)).trans hx303_5
                        replace hx303_6 := (HB.out.cell (World.block_lt_of_cell? w _ hx303_6)).trans hx303_6
                        replace p303 := eq_true p303
                        replace q303 := eq_true q303
                        have p304 : 0 ≤ ((ji13) : Int) := of_decide_eq_true (by first | (with_reducible assumption) | assumption)
                        have q304 : (ji13) < (l0.length : Int) := of_decide_eq_true (by first | (with_reducible assumption) | assumption)
                        obtain ⟨ad304, e304, hx304_0, hx304_1, hx304_2, hx304_3, hx304_4, hx304_5, hx304_6⟩ := at_T26 HR0.out (ji13) p304 q304
                        obtain rfl : ad303 = ad304 := (by injection e304)
                        replace hx304_0 := (HB.out.cell (World.block_lt_of_cell? w _ hx304_0)).trans hx304_0
                        replace hx304_1 := (HB.out.cell (World.block_lt_of_cell? w _ hx304_1)).trans hx304_1
                        replace hx304_2 := (HB.out.cell (World.block_lt_of_cell? w _ hx304_2)).trans hx304_2
                        replace hx304_3 := (HB.out.cell (World.block_lt_of_cell? w _ hx304_3)).trans hx304_3
                        replace hx304_4 := (HB.out.cell (World.block_lt_of_cell? w _ hx304_4)).trans hx304_4
                        replace hx304_5 := (HB.out.cell (World.block_lt_of_cell? w _ hx304_5)).trans hx304_5
                        replace hx304_6 := (HB.out.cell (World.block_lt_of_cell? w _ hx304_6)).trans hx304_6
                        replace p304 := eq_true p304
                        replace q304 := eq_true q304
                        have p316 : 0 ≤ (a1 : Int) := of_decide_eq_true (by first | (with_reducible assumption) | assumption)
                        have q316 : a1 < (l0.length : Int) := of_decide_eq_true (by first | (with_reducible assumption) | assumption)
                        obtain ⟨ad316, e316, hx316_0, hx316_1, hx316_2, hx316_3, hx316_4, hx316_5, hx316_6⟩ := at_T26 HR0.out a1 p316 q316
                        obtain rfl : ad303 = ad316 := (by injection e316)
                        replace hx316_0 := (HB.out.cell (World.block_lt_of_cell? w _ hx316_0)).trans hx316_0
                        replace hx316_1 := (HB.out.cell (World.block_lt_of_cell? w _ hx316_1)).trans hx316_1
                        replace hx316_2 := (HB.out.cell (World.block_lt_of_cell? w _ hx316_2)).trans hx316_2
                        replace hx316_3 := (HB.out.cell (World.block_lt_of_cell? w _ hx316_3)).trans hx316_3
                        replace hx316_4 := (HB.out.cell (World.block_lt_of_cell? w _ hx316_4)).trans hx316_4
                        replace hx316_5 := (HB.out.cell (World.block_lt_of_cell? w _ hx316_5)).trans hx316_5
                        replace hx316_6 := (HB.out.cell (World.block_lt_of_cell? w _ hx316_6)).trans hx316_6
                        replace p316 := eq_true p316
                        replace q316 := eq_true q316
                        go_wp2_with (first | ((with_reducible refine gate_callee (f := 16) rfl ?_); refine goesL_ (some 49) rfl rfl Try.func16 (by kernel_rfl) rfl #[.agg #[.int .i32 ((rd_T26 l0 a1).f0), .int .i32 ((rd_T26 l0 a1).f1.f0), .int .i32 ((rd_T26 l0 a1).f1.f1), .int .u8 ((rd_T26 l0 a1).f2), .int .u8 ((rd_T26 l0 a1).f3.f0), .int .u8 ((rd_T26 l0 a1).f3.f1), .int .u8 ((rd_T26 l0 a1).f3.f2)], .int .i32 a2] rfl (by (try simp only [List.map_toArray, List.map_cons, List.map_nil]); first | done | rfl | (simp only [List.length_drop, List.length_take]; rfl)) ?_; (with_reducible refine (cell_Mark.calls ((rd_T26 l0 a1).f0) ((rd_T26 l0 a1).f1.f0) ((rd_T26 l0 a1).f1.f1) ((rd_T26 l0 a1).f2) ((rd_T26 l0 a1).f3.f0) ((rd_T26 l0 a1).f3.f1) ((rd_T26 l0 a1).f3.f2) a2 t317 t318 t319 t320 t321 t322 t323 t324 _ A27.out).mono ?_); rintro e w30 ⟨rfl, hb⟩; refine ⟨_, rfl, ?_⟩; have n0_ := aS (Kd.R_below (by (with_reducible repeat (first | apply rA | apply rN | apply rD)); exact HO_8.out) hb); have n1_ := aS (below_step (by repeat (first | (with_reducible first | exact HB.out | apply lA | apply lN | apply lD) | exact HB.out)) hb); clear HO_8; clear HB; have HO_8 := n0_; have HB := n1_; clear n0_ n1_; (try clear hb); (try clear hb2); (try clear hk); (try clear hi)) | ((with_reducible refine gate_dst (N := 9) rfl ?_); (try (refine gate_guard (by rfl) ?_; dsimp only)); refine box_event ?hg (N := 9) ?hd (cs := #[.int .i32 0, .int .i32 0, .int .i32 0, .int .u8 0, .int .u8 0, .int .u8 0, .int .u8 0]) (t := 26) ?hr ?_; (case hd => rfl); (case hg => rfl); (case hr => first | (go_simp; done) | (go_simp; rfl)); intro gb325 hg w31 hbox hb; have n0_ := aS (Kd.R_below (Kd.R_elderB (by (with_reducible repeat (first | apply rA | apply rN | apply rD)); exact HO_8.out) gb325 (Nat.le_of_eq hg.symm)) hb); have n1_ := aS (below_step (by repeat (first | (with_reducible first | exact HB.out | apply lA | apply lN | apply lD) | exact HB.out)) hb); have n2_ := aS (hbox); have n3_ := aS ((by rw [hg]; exact (below_size (by repeat (first | (with_reducible first | exact HB.out | apply lA | apply lN | apply lD) | exact HB.out))) : w.heap.size ≤ gb325)); have n4_ := aS ((by rw [hg]; exact (below_size (by repeat (first | (with_reducible first | exact HB.out | apply lA | apply lN | apply lD) | exact HB.out))) : w.heap.size ≤ gb325)); clear HO_8; clear HB; have HO_8 := n0_; have HB := n1_; have BK325 := n2_; have GW325 := n3_; have GE325 := n4_; clear n0_ n1_ n2_ n3_ n4_; clear hb hbox hg; obtain ⟨hcz32_0, hcz32_1, hcz32_2, hcz32_3, hcz32_4, hcz32_5, hcz32_6, hfz32_0, hfz32_1, hfz32_2, hfz32_3, hfz32_4, hfz32_5, hfz32_6⟩ := cel7 BK325.out) | ((with_reducible refine gate_store (t := 26) (p := 9) rfl ?_); refine store_event (t := 26) (p := 9) (v := ?vo_w33) (w1 := (((((((w31.setCell ⟨gb325, 0, none⟩ (.int .i32 t317)).setCell ⟨gb325, 1, none⟩ (.int .i32 t318)).setCell ⟨gb325, 2, none⟩ (.int .i32 t319)).setCell ⟨gb325, 3, none⟩ (.int .u8 t320)).setCell ⟨gb325, 4, none⟩ (.int .u8 t321)).setCell ⟨gb325, 5, none⟩ (.int .u8 t322)).setCell ⟨gb325, 6, none⟩ (.int .u8 t323))) ?hg ?ho ?hn ?hr ?_; (case ho => rfl); (case hg => rfl); (case hn => rfl); (case hr => first | (go_simp; done) | (go_simp; rfl)); intro w33 hw; have n0_ : Aside0 (Kd.R k26 26 w33 w.heap.size (fun k_ => k_ ≠ gb325) v301 t300) := ⟨(by rw [hw]; exact (by (with_reducible repeat (first | apply rA | apply rN | apply rD)); exact Kd.R_mono (Kd.R_far (p := ⟨gb325, 6, none⟩) (Kd.R_far (p := ⟨gb325, 5, none⟩) (Kd.R_far (p := ⟨gb325, 4, none⟩) (Kd.R_far (p := ⟨gb325, 3, none⟩) (Kd.R_far (p := ⟨gb325, 2, none⟩) (Kd.R_far (p := ⟨gb325, 1, none⟩) (Kd.R_far (p := ⟨gb325, 0, none⟩) (Kd.R_mono HO_8.out (fun k_ hk => (⟨hk, hk.2⟩ : _ ∧ k_ ≠ gb325))) (fun _ hk => hk.2) (.int .i32 t317)) (fun _ hk => hk.2) (.int .i32 t318)) (fun _ hk => hk.2) (.int .i32 t319)) (fun _ hk => hk.2) (.int .u8 t320)) (fun _ hk => hk.2) (.int .u8 t321)) (fun _ hk => hk.2) (.int .u8 t322)) (fun _ hk => hk.2) (.int .u8 t323)) (fun _ hk => hk.1.2)))⟩; have n1_ : Aside0 (w33.heap[gb325]? = some (.cells #[.int .i32 t317, .int .i32 t318, .int .i32 t319, .int .u8 t320, .int .u8 t321, .int .u8 t322, .int .u8 t323] 26 (0, 0))) := ⟨(by rw [hw]; exact (by (with_reducible repeat (first | apply bN | apply bD | apply bA)); refine blk_put (cs := #[.int .i32 t317, .int .i32 t318, .int .i32 t319, .int .u8 t320, .int .u8 t321, .int .u8 t322, .int .u8 0]) ?_ 6 _ rfl; refine blk_put (cs := #[.int .i32 t317, .int .i32 t318, .int .i32 t319, .int .u8 t320, .int .u8 t321, .int .u8 0, .int .u8 0]) ?_ 5 _ rfl; refine blk_put (cs := #[.int .i32 t317, .int .i32 t318, .int .i32 t319, .int .u8 t320, .int .u8 0, .int .u8 0, .int .u8 0]) ?_ 4 _ rfl; refine blk_put (cs := #[.int .i32 t317, .int .i32 t318, .int .i32 t319, .int .u8 0, .int .u8 0, .int .u8 0, .int .u8 0]) ?_ 3 _ rfl; refine blk_put (cs := #[.int .i32 t317, .int .i32 t318, .int .i32 0, .int .u8 0, .int .u8 0, .int .u8 0, .int .u8 0]) ?_ 2 _ rfl; refine blk_put (cs := #[.int .i32 t317, .int .i32 0, .int .i32 0, .int .u8 0, .int .u8 0, .int .u8 0, .int .u8 0]) ?_ 1 _ rfl; refine blk_put (cs := #[.int .i32 0, .int .i32 0, .int .i32 0, .int .u8 0, .int .u8 0, .int .u8 0, .int .u8 0]) ?_ 0 _ rfl; (with_reducible repeat (first | apply bN | apply bD | apply bA)); exact BK325.out))⟩; have n2_ : Aside0 (Below w.heap.size w w33) := ⟨(by rw [hw]; exact (by repeat (first | (with_reducible first | exact HB.out | apply lA | apply lN | apply lD | refine below_set ?_ GE325.out) | exact HB.out)))⟩; clear hw; clear HO_8; clear BK325; clear HB; have HO_8 := n0_; have BK325 := n1_; have HB := n2_; clear n0_ n1_ n2_; obtain ⟨hcz34_0, hcz34_1, hcz34_2, hcz34_3, hcz34_4, hcz34_5, hcz34_6, hfz34_0, hfz34_1, hfz34_2, hfz34_3, hfz34_4, hfz34_5, hfz34_6⟩ := cel7 BK325.out; have p29 : 0 ≤ (a1 : Int) := of_decide_eq_true (by first | (with_reducible assumption) | assumption); have q29 : (a1 : Int) < ((t300.length : Int) : Int) := of_decide_eq_true (by first | (with_reducible assumption) | assumption); obtain ⟨go29, co29, eo29, gb29, gl29, cl29, HG29⟩ := Kd.R_form HO_8.out (by omega); (first | cases eo29 | (injection eo29 with ea_ en_ ec_; (first | subst ea_ | (injection ea_ with ea_; subst ea_)); subst ec_; clear en_)); have GB29 := Aside0.mk gb29; have GG29 := Aside0.mk HG29; clear gb29 gl29 HG29; obtain ⟨ce29, hcl29, hM29, hcc29, hfr29⟩ := Kd.R_elem HO_8.out z26 (a1 : Int) p29 q29; obtain rfl := k26_openM hM29; have hx29_0 : w33.cell? ⟨go29, (a1 : Int).toNat * 7, none⟩ = some (.int .i32 ((rd_T26 t300 a1).f0)) := hcc29 0 _ rfl; have hx29_1 : w33.cell? ⟨go29, (a1 : Int).toNat * 7 + 1, none⟩ = some (.int .i32 ((rd_T26 t300 a1).f1.f0)) := hcc29 1 _ rfl; have hx29_2 : w33.cell? ⟨go29, (a1 : Int).toNat * 7 + 2, none⟩ = some (.int .i32 ((rd_T26 t300 a1).f1.f1)) := hcc29 2 _ rfl; have hx29_3 : w33.cell? ⟨go29, (a1 : Int).toNat * 7 + 3, none⟩ = some (.int .u8 ((rd_T26 t300 a1).f2)) := hcc29 3 _ rfl; have hx29_4 : w33.cell? ⟨go29, (a1 : Int).toNat * 7 + 4, none⟩ = some (.int .u8 ((rd_T26 t300 a1).f3.f0)) := hcc29 4 _ rfl; have hx29_5 : w33.cell? ⟨go29, (a1 : Int).toNat * 7 + 5, none⟩ = some (.int .u8 ((rd_T26 t300 a1).f3.f1)) := hcc29 5 _ rfl; have hx29_6 : w33.cell? ⟨go29, (a1 : Int).toNat * 7 + 6, none⟩ = some (.int .u8 ((rd_T26 t300 a1).f3.f2)) := hcc29 6 _ rfl; have hf29_0 : w33.frozen? ⟨go29, (a1 : Int).toNat * 7, none⟩ = false := hfr29 0; have hf29_1 : w33.frozen? ⟨go29, (a1 : Int).toNat * 7 + 1, none⟩ = false := hfr29 1; have hf29_2 : w33.frozen? ⟨go29, (a1 : Int).toNat * 7 + 2, none⟩ = false := hfr29 2; have hf29_3 : w33.frozen? ⟨go29, (a1 : Int).toNat * 7 + 3, none⟩ = false := hfr29 3; have hf29_4 : w33.frozen? ⟨go29, (a1 : Int).toNat * 7 + 4, none⟩ = false := hfr29 4; have hf29_5 : w33.frozen? ⟨go29, (a1 : Int).toNat * 7 + 5, none⟩ = false := hfr29 5; have hf29_6 : w33.frozen? ⟨go29, (a1 : Int).toNat * 7 + 6, none⟩ = false := hfr29 6; clear hcl29 hcc29 hfr29 hM29; replace p29 := eq_true p29; replace q29 := eq_true q29; have HX35 := aS (show Kd.R k26 26 w33 w.heap.size (fun k_ => k_ ≠ gb325) (.slice (some ⟨go29, 0, none⟩) t300.length co29) t300 from (by (with_reducible repeat (first | apply rA | apply rN | apply rD)); exact HO_8.out)); obtain ⟨ce35, hcl35, hM35, hcc35, hfr35⟩ := Kd.R_elem HX35.out z26 (a1 : Int) (of_decide_eq_true (by first | (with_reducible assumption) | assumption)) (by have h_ : (a1 : Int) < ((t300.length : Int) : Int) := of_decide_eq_true (by first | (with_reducible assumption) | assumption); first | exact h_ | (have e_ := (Kd.R_reads' HO_8.out).1; omega) | simpa using h_); obtain rfl := k26_openM hM35; have HP35 := Kd.R_seg HX35.out (a1 : Int) (of_decide_eq_true (by first | (with_reducible assumption) | assumption)) (by have h_ : (a1 : Int) < ((t300.length : Int) : Int) := of_decide_eq_true (by first | (with_reducible assumption) | assumption); first | exact h_ | (have e_ := (Kd.R_reads' HO_8.out).1; omega) | simpa using h_) (seg := [.int .i32 t317, .int .i32 t318, .int .i32 t319, .int .u8 t320, .int .u8 t321, .int .u8 t322, .int .u8 t323]) (j := 0) hcl35 hcc35 (show 7 ≤ 7 from by decide) (x' := (⟨t317, (⟨t318, t319⟩ : S22), t320, (⟨t321, t322, t323⟩ : S24)⟩ : S26)) (k26_mkM _ _ _ (⟨t317, (⟨t318, t319⟩ : S22), t320, (⟨t321, t322, t323⟩ : S24)⟩ : S26) ) (fun _ hk => hk); have hx35_0 := hcc35 0 _ rfl; (try simp only [show (k26).sz = 7 from rfl, Nat.mul_one, Nat.add_zero] at hx35_0); have hf35_0 := hfr35 0; (try simp only [show (k26).sz = 7 from rfl, Nat.mul_one, Nat.add_zero] at hf35_0); have hx35_1 := hcc35 1 _ rfl; (try simp only [show (k26).sz = 7 from rfl, Nat.mul_one, Nat.add_zero] at hx35_1); have hf35_1 := hfr35 1; (try simp only [show (k26).sz = 7 from rfl, Nat.mul_one, Nat.add_zero] at hf35_1); have hx35_2 := hcc35 2 _ rfl; (try simp only [show (k26).sz = 7 from rfl, Nat.mul_one, Nat.add_zero] at hx35_2); have hf35_2 := hfr35 2; (try simp only [show (k26).sz = 7 from rfl, Nat.mul_one, Nat.add_zero] at hf35_2); have hx35_3 := hcc35 3 _ rfl; (try simp only [show (k26).sz = 7 from rfl, Nat.mul_one, Nat.add_zero] at hx35_3); have hf35_3 := hfr35 3; (try simp only [show (k26).sz = 7 from rfl, Nat.mul_one, Nat.add_zero] at hf35_3); have hx35_4 := hcc35 4 _ rfl; (try simp only [show (k26).sz = 7 from rfl, Nat.mul_one, Nat.add_zero] at hx35_4); have hf35_4 := hfr35 4; (try simp only [show (k26).sz = 7 from rfl, Nat.mul_one, Nat.add_zero] at hf35_4); have hx35_5 := hcc35 5 _ rfl; (try simp only [show (k26).sz = 7 from rfl, Nat.mul_one, Nat.add_zero] at hx35_5); have hf35_5 := hfr35 5; (try simp only [show (k26).sz = 7 from rfl, Nat.mul_one, Nat.add_zero] at hf35_5); have hx35_6 := hcc35 6 _ rfl; (try simp only [show (k26).sz = 7 from rfl, Nat.mul_one, Nat.add_zero] at hx35_6); have hf35_6 := hfr35 6; (try simp only [show (k26).sz = 7 from rfl, Nat.mul_one, Nat.add_zero] at hf35_6); clear hcl35 hcc35 hfr35 hM35) | ((with_reducible refine gate_store (t := 26) (p := 55) rfl ?_); refine store_event (t := 26) (p := 55) (v := ?vo_w36) (w1 := (((((((w33.setCell ⟨go29, (a1 : Int).toNat * 7, none⟩ (.int .i32 t317)).setCell ⟨go29, (a1 : Int).toNat * 7 + 1, none⟩ (.int .i32 t318)).setCell ⟨go29, (a1 : Int).toNat * 7 + 2, none⟩ (.int .i32 t319)).setCell ⟨go29, (a1 : Int).toNat * 7 + 3, none⟩ (.int .u8 t320)).setCell ⟨go29, (a1 : Int).toNat * 7 + 4, none⟩ (.int .u8 t321)).setCell ⟨go29, (a1 : Int).toNat * 7 + 5, none⟩ (.int .u8 t322)).setCell ⟨go29, (a1 : Int).toNat * 7 + 6, none⟩ (.int .u8 t323))) ?hg ?ho ?hn ?hr ?_; (case ho => rfl); (case hg => rfl); (case hn => rfl); (case hr => first | (go_simp; done) | (go_simp; rfl)); intro w36 hw; have hg : w33.grownBy w36 (some go29) := (by rw [hw]; exact HP35.2); have hp_ : Kd.R k26 26 w36 w.heap.size (fun k_ => k_ ≠ gb325) (.slice (some ⟨go29, 0, none⟩) t300.length co29) y326 := (by rw [hw, Ny326.out]; exact HP35.1); clear HP35; have n0_ := aS (hp_); have n1_ := aS (blk_grown (g := gb325) (o := .cells #[.int .i32 t317, .int .i32 t318, .int .i32 t319, .int .u8 t320, .int .u8 t321, .int .u8 t322, .int .u8 t323] 26 (0, 0)) (by (with_reducible repeat (first | apply bN | apply bD | apply bA)); exact BK325.out) hg (Kd.R_away HO_8.out (fun _ hk => hk))); have n2_ := aS ((by rw [hw]; exact below_set (below_set (below_set (below_set (below_set (below_set (below_set (HB.out) GB29.out) GB29.out) GB29.out) GB29.out) GB29.out) GB29.out) GB29.out : Below w.heap.size w w36)); clear HO_8; clear BK325; clear HB; have HO_8 := n0_; have BK325 := n1_; have HB := n2_; clear n0_ n1_ n2_; clear hg hw hp_))
                        go_ret2
                        exact ⟨_, by first | rfl | (simp <;> rfl) | (simp only [← hji13]; first | rfl | (simp <;> rfl)) | (simp [*] <;> rfl), by (with_reducible repeat (first | apply rA | apply rN | apply rD)); exact Kd.R_mono HO_8.out (fun _ hk => trivial), by repeat (first | (with_reducible first | exact HB.out | apply lA | apply lN | apply lD | refine below_set ?_ GE325.out) | exact HB.out)⟩
                      · rw [if_neg c28] at H
                        exact absurd H (by simp)
                  · rw [if_neg c15] at H
                    exact absurd H (by simp)
                · rw [if_neg c14] at H
                  exact absurd H (by simp)
              · rw [if_neg c12] at H
                have c12b0 : decide (0 < a1) = false := decide_eq_false c12
                clear c12
                replace H := Option.bind_eq_some_iff.mp H
                obtain ⟨⟨t328, t329, t330, t331, t332, t333, t334, t335⟩, A370, H⟩ := H
                try dsimp only at H
                have A37 := Aside0.mk A370
                clear A370
                by_cases c38 : a1 < (t300.length : Int)
                · rw [if_pos c38] at H
                  have c38b0 : decide (a1 < (t300.length : Int)) = true := decide_eq_true c38
                  clear c38
                  obtain ⟨y337, hy337⟩ : ∃ y_ : List (S26), y_ = (t300.set (a1 : Int).toNat (⟨t328, (⟨t329, t330⟩ : S22), t331, (⟨t332, t333, t334⟩ : S24)⟩ : S26)) := ⟨_, rfl⟩
                  replace H : (some (y337, t335)) = some (r1, r2) := by first | (rw [hy337]; with_reducible exact H) | (have H2_ := (Option.bind_some _ _).symm.trans H; rw [hy337]; with_reducible exact H2_) | (have H2_ := (Option.bind_some _ _).symm.trans H; with_reducible exact H2_) | with_reducible exact H | (rw [hy337]; exact H) | exact H
                  have Ny337 := Aside0.mk hy337
                  clear hy337
                  simp only [Option.some.injEq, Prod.mk.injEq] at H
                  obtain ⟨rfl, rfl⟩ := H
                  have p303 : 0 ≤ (a1 : Int) := of_decide_eq_true (by first | (with_reducible assumption) | assumption)
                  have q303 : a1 < (l0.length : Int) := of_decide_eq_true (by first | (with_reducible assumption) | assumption)
                  obtain ⟨ad303, e303, hx303_0, hx303_1, hx303_2, hx303_3, hx303_4, hx303_5, hx303_6⟩ := at_T26 HR0.out a1 p303 q303
                  cases e303
                  replace hx303_0 := (HB.out.cell (World.block_lt_of_cell? w _ hx303_0)).trans hx303_0
                  replace hx303_1 := (HB.out.cell (World.block_lt_of_cell? w _ hx303_1)).trans hx303_1
                  replace hx303_2 := (HB.out.cell (World.block_lt_of_cell? w _ hx303_2)).trans hx303_2
                  replace hx303_3 := (HB.out.cell (World.block_lt_of_cell? w _ hx303_3)).trans hx303_3
                  replace hx303_4 := (HB.out.cell (World.block_lt_of_cell? w _ hx303_4)).trans hx303_4
                  replace hx303_5 := (HB.out.cell (World.block_lt_of_cell? w _ hx303_5)).trans hx303_5
                  replace hx303_6 := (HB.out.cell (World.block_lt_of_cell? w _ hx303_6)).trans hx303_6
                  replace p303 := eq_true p303
                  replace q303 := eq_true q303
                  have p327 : 0 ≤ (a1 : Int) := of_decide_eq_true (by first | (with_reducible assumption) | assumption)
                  have q327 : a1 < (l0.length : Int) := of_decide_eq_true (by first | (with_reducible assumption) | assumption)
                  obtain ⟨ad327, e327, hx327_0, hx327_1, hx327_2, hx327_3, hx327_4, hx327_5, hx327_6⟩ := at_T26 HR0.out a1 p327 q327
                  obtain rfl : ad303 = ad327 := (by injection e327)
                  replace hx327_0 := (HB.out.cell (World.block_lt_of_cell? w _ hx327_0)).trans hx327_0
                  replace hx327_1 := (HB.out.cell (World.block_lt_of_cell? w _ hx327_1)).trans hx327_1
                  replace hx327_2 := (HB.out.cell (World.block_lt_of_cell? w _ hx327_2)).trans hx327_2
                  replace hx327_3 := (HB.out.cell (World.block_lt_of_cell? w _ hx327_3)).trans hx327_3
                  replace hx327_4 := (HB.out.cell (World.block_lt_of_cell? w _ hx327_4)).trans hx327_4
                  replace hx327_5 := (HB.out.cell (World.block_lt_of_cell? w _ hx327_5)).trans hx327_5
                  replace hx327_6 := (HB.out.cell (World.block_lt_of_cell? w _ hx327_6)).trans hx327_6
                  replace p327 := eq_true p327
                  replace q327 := eq_true q327
                  go_wp2_with (first | ((with_reducible refine gate_callee (f := 16) rfl ?_); refine goesL_ (some 49) rfl rfl Try.func16 (by kernel_rfl) rfl #[.agg #[.int .i32 ((rd_T26 l0 a1).f0), .int .i32 ((rd_T26 l0 a1).f1.f0), .int .i32 ((rd_T26 l0 a1).f1.f1), .int .u8 ((rd_T26 l0 a1).f2), .int .u8 ((rd_T26 l0 a1).f3.f0), .int .u8 ((rd_T26 l0 a1).f3.f1), .int .u8 ((rd_T26 l0 a1).f3.f2)], .int .i32 a2] rfl (by (try simp only [List.map_toArray, List.map_cons, List.map_nil]); first | done | rfl | (simp only [List.length_drop, List.length_take]; rfl)) ?_; (with_reducible refine (cell_Mark.calls ((rd_T26 l0 a1).f0) ((rd_T26 l0 a1).f1.f0) ((rd_T26 l0 a1).f1.f1) ((rd_T26 l0 a1).f2) ((rd_T26 l0 a1).f3.f0) ((rd_T26 l0 a1).f3.f1) ((rd_T26 l0 a1).f3.f2) a2 t328 t329 t330 t331 t332 t333 t334 t335 _ A37.out).mono ?_); rintro e w40 ⟨rfl, hb⟩; refine ⟨_, rfl, ?_⟩; have n0_ := aS (Kd.R_below (by (with_reducible repeat (first | apply rA | apply rN | apply rD)); exact HO_8.out) hb); have n1_ := aS (below_step (by repeat (first | (with_reducible first | exact HB.out | apply lA | apply lN | apply lD) | exact HB.out)) hb); clear HO_8; clear HB; have HO_8 := n0_; have HB := n1_; clear n0_ n1_; (try clear hb); (try clear hb2); (try clear hk); (try clear hi)) | ((with_reducible refine gate_dst (N := 9) rfl ?_); (try (refine gate_guard (by rfl) ?_; dsimp only)); refine box_event ?hg (N := 9) ?hd (cs := #[.int .i32 0, .int .i32 0, .int .i32 0, .int .u8 0, .int .u8 0, .int .u8 0, .int .u8 0]) (t := 26) ?hr ?_; (case hd => rfl); (case hg => rfl); (case hr => first | (go_simp; done) | (go_simp; rfl)); intro gb336 hg w41 hbox hb; have n0_ := aS (Kd.R_below (Kd.R_elderB (by (with_reducible repeat (first | apply rA | apply rN | apply rD)); exact HO_8.out) gb336 (Nat.le_of_eq hg.symm)) hb); have n1_ := aS (below_step (by repeat (first | (with_reducible first | exact HB.out | apply lA | apply lN | apply lD) | exact HB.out)) hb); have n2_ := aS (hbox); have n3_ := aS ((by rw [hg]; exact (below_size (by repeat (first | (with_reducible first | exact HB.out | apply lA | apply lN | apply lD) | exact HB.out))) : w.heap.size ≤ gb336)); have n4_ := aS ((by rw [hg]; exact (below_size (by repeat (first | (with_reducible first | exact HB.out | apply lA | apply lN | apply lD) | exact HB.out))) : w.heap.size ≤ gb336)); clear HO_8; clear HB; have HO_8 := n0_; have HB := n1_; have BK336 := n2_; have GW336 := n3_; have GE336 := n4_; clear n0_ n1_ n2_ n3_ n4_; clear hb hbox hg; obtain ⟨hcz42_0, hcz42_1, hcz42_2, hcz42_3, hcz42_4, hcz42_5, hcz42_6, hfz42_0, hfz42_1, hfz42_2, hfz42_3, hfz42_4, hfz42_5, hfz42_6⟩ := cel7 BK336.out) | ((with_reducible refine gate_store (t := 26) (p := 9) rfl ?_); refine store_event (t := 26) (p := 9) (v := ?vo_w43) (w1 := (((((((w41.setCell ⟨gb336, 0, none⟩ (.int .i32 t328)).setCell ⟨gb336, 1, none⟩ (.int .i32 t329)).setCell ⟨gb336, 2, none⟩ (.int .i32 t330)).setCell ⟨gb336, 3, none⟩ (.int .u8 t331)).setCell ⟨gb336, 4, none⟩ (.int .u8 t332)).setCell ⟨gb336, 5, none⟩ (.int .u8 t333)).setCell ⟨gb336, 6, none⟩ (.int .u8 t334))) ?hg ?ho ?hn ?hr ?_; (case ho => rfl); (case hg => rfl); (case hn => rfl); (case hr => first | (go_simp; done) | (go_simp; rfl)); intro w43 hw; have n0_ : Aside0 (Kd.R k26 26 w43 w.heap.size (fun k_ => k_ ≠ gb336) v301 t300) := ⟨(by rw [hw]; exact (by (with_reducible repeat (first | apply rA | apply rN | apply rD)); exact Kd.R_mono (Kd.R_far (p := ⟨gb336, 6, none⟩) (Kd.R_far (p := ⟨gb336, 5, none⟩) (Kd.R_far (p := ⟨gb336, 4, none⟩) (Kd.R_far (p := ⟨gb336, 3, none⟩) (Kd.R_far (p := ⟨gb336, 2, none⟩) (Kd.R_far (p := ⟨gb336, 1, none⟩) (Kd.R_far (p := ⟨gb336, 0, none⟩) (Kd.R_mono HO_8.out (fun k_ hk => (⟨hk, hk.2⟩ : _ ∧ k_ ≠ gb336))) (fun _ hk => hk.2) (.int .i32 t328)) (fun _ hk => hk.2) (.int .i32 t329)) (fun _ hk => hk.2) (.int .i32 t330)) (fun _ hk => hk.2) (.int .u8 t331)) (fun _ hk => hk.2) (.int .u8 t332)) (fun _ hk => hk.2) (.int .u8 t333)) (fun _ hk => hk.2) (.int .u8 t334)) (fun _ hk => hk.1.2)))⟩; have n1_ : Aside0 (w43.heap[gb336]? = some (.cells #[.int .i32 t328, .int .i32 t329, .int .i32 t330, .int .u8 t331, .int .u8 t332, .int .u8 t333, .int .u8 t334] 26 (0, 0))) := ⟨(by rw [hw]; exact (by (with_reducible repeat (first | apply bN | apply bD | apply bA)); refine blk_put (cs := #[.int .i32 t328, .int .i32 t329, .int .i32 t330, .int .u8 t331, .int .u8 t332, .int .u8 t333, .int .u8 0]) ?_ 6 _ rfl; refine blk_put (cs := #[.int .i32 t328, .int .i32 t329, .int .i32 t330, .int .u8 t331, .int .u8 t332, .int .u8 0, .int .u8 0]) ?_ 5 _ rfl; refine blk_put (cs := #[.int .i32 t328, .int .i32 t329, .int .i32 t330, .int .u8 t331, .int .u8 0, .int .u8 0, .int .u8 0]) ?_ 4 _ rfl; refine blk_put (cs := #[.int .i32 t328, .int .i32 t329, .int .i32 t330, .int .u8 0, .int .u8 0, .int .u8 0, .int .u8 0]) ?_ 3 _ rfl; refine blk_put (cs := #[.int .i32 t328, .int .i32 t329, .int .i32 0, .int .u8 0, .int .u8 0, .int .u8 0, .int .u8 0]) ?_ 2 _ rfl; refine blk_put (cs := #[.int .i32 t328, .int .i32 0, .int .i32 0, .int .u8 0, .int .u8 0, .int .u8 0, .int .u8 0]) ?_ 1 _ rfl; refine blk_put (cs := #[.int .i32 0, .int .i32 0, .int .i32 0, .int .u8 0, .int .u8 0, .int .u8 0, .int .u8 0]) ?_ 0 _ rfl; (with_reducible repeat (first | apply bN | apply bD | apply bA)); exact BK336.out))⟩; have n2_ : Aside0 (Below w.heap.size w w43) := ⟨(by rw [hw]; exact (by repeat (first | (with_reducible first | exact HB.out | apply lA | apply lN | apply lD | refine below_set ?_ GE336.out) | exact HB.out)))⟩; clear hw; clear HO_8; clear BK336; clear HB; have HO_8 := n0_; have BK336 := n1_; have HB := n2_; clear n0_ n1_ n2_; obtain ⟨hcz44_0, hcz44_1, hcz44_2, hcz44_3, hcz44_4, hcz44_5, hcz44_6, hfz44_0, hfz44_1, hfz44_2, hfz44_3, hfz44_4, hfz44_5, hfz44_6⟩ := cel7 BK336.out; have p39 : 0 ≤ (a1 : Int) := of_decide_eq_true (by first | (with_reducible assumption) | assumption); have q39 : (a1 : Int) < ((t300.length : Int) : Int) := of_decide_eq_true (by first | (with_reducible assumption) | assumption); obtain ⟨go39, co39, eo39, gb39, gl39, cl39, HG39⟩ := Kd.R_form HO_8.out (by omega); (first | cases eo39 | (injection eo39 with ea_ en_ ec_; (first | subst ea_ | (injection ea_ with ea_; subst ea_)); subst ec_; clear en_)); have GB39 := Aside0.mk gb39; have GG39 := Aside0.mk HG39; clear gb39 gl39 HG39; obtain ⟨ce39, hcl39, hM39, hcc39, hfr39⟩ := Kd.R_elem HO_8.out z26 (a1 : Int) p39 q39; obtain rfl := k26_openM hM39; have hx39_0 : w43.cell? ⟨go39, (a1 : Int).toNat * 7, none⟩ = some (.int .i32 ((rd_T26 t300 a1).f0)) := hcc39 0 _ rfl; have hx39_1 : w43.cell? ⟨go39, (a1 : Int).toNat * 7 + 1, none⟩ = some (.int .i32 ((rd_T26 t300 a1).f1.f0)) := hcc39 1 _ rfl; have hx39_2 : w43.cell? ⟨go39, (a1 : Int).toNat * 7 + 2, none⟩ = some (.int .i32 ((rd_T26 t300 a1).f1.f1)) := hcc39 2 _ rfl; have hx39_3 : w43.cell? ⟨go39, (a1 : Int).toNat * 7 + 3, none⟩ = some (.int .u8 ((rd_T26 t300 a1).f2)) := hcc39 3 _ rfl; have hx39_4 : w43.cell? ⟨go39, (a1 : Int).toNat * 7 + 4, none⟩ = some (.int .u8 ((rd_T26 t300 a1).f3.f0)) := hcc39 4 _ rfl; have hx39_5 : w43.cell? ⟨go39, (a1 : Int).toNat * 7 + 5, none⟩ = some (.int .u8 ((rd_T26 t300 a1).f3.f1)) := hcc39 5 _ rfl; have hx39_6 : w43.cell? ⟨go39, (a1 : Int).toNat * 7 + 6, none⟩ = some (.int .u8 ((rd_T26 t300 a1).f3.f2)) := hcc39 6 _ rfl; have hf39_0 : w43.frozen? ⟨go39, (a1 : Int).toNat * 7, none⟩ = false := hfr39 0; have hf39_1 : w43.frozen? ⟨go39, (a1 : Int).toNat * 7 + 1, none⟩ = false := hfr39 1; have hf39_2 : w43.frozen? ⟨go39, (a1 : Int).toNat * 7 + 2, none⟩ = false := hfr39 2; have hf39_3 : w43.frozen? ⟨go39, (a1 : Int).toNat * 7 + 3, none⟩ = false := hfr39 3; have hf39_4 : w43.frozen? ⟨go39, (a1 : Int).toNat * 7 + 4, none⟩ = false := hfr39 4; have hf39_5 : w43.frozen? ⟨go39, (a1 : Int).toNat * 7 + 5, none⟩ = false := hfr39 5; have hf39_6 : w43.frozen? ⟨go39, (a1 : Int).toNat * 7 + 6, none⟩ = false := hfr39 6; clear hcl39 hcc39 hfr39 hM39; replace p39 := eq_true p39; replace q39 := eq_true q39; have HX45 := aS (show Kd.R k26 26 w43 w.heap.size (fun k_ => k_ ≠ gb336) (.slice (some ⟨go39, 0, none⟩) t300.length co39) t300 from (by (with_reducible repeat (first | apply rA | apply rN | apply rD)); exact HO_8.out)); obtain ⟨ce45, hcl45, hM45, hcc45, hfr45⟩ := Kd.R_elem HX45.out z26 (a1 : Int) (of_decide_eq_true (by first | (with_reducible assumption) | assumption)) (by have h_ : (a1 : Int) < ((t300.length : Int) : Int) := of_decide_eq_true (by first | (with_reducible assumption) | assumption); first | exact h_ | (have e_ := (Kd.R_reads' HO_8.out).1; omega) | simpa using h_); obtain rfl := k26_openM hM45; have HP45 := Kd.R_seg HX45.out (a1 : Int) (of_decide_eq_true (by first | (with_reducible assumption) | assumption)) (by have h_ : (a1 : Int) < ((t300.length : Int) : Int) := of_decide_eq_true (by first | (with_reducible assumption) | assumption); first | exact h_ | (have e_ := (Kd.R_reads' HO_8.out).1; omega) | simpa using h_) (seg := [.int .i32 t328, .int .i32 t329, .int .i32 t330, .int .u8 t331, .int .u8 t332, .int .u8 t333, .int .u8 t334]) (j := 0) hcl45 hcc45 (show 7 ≤ 7 from by decide) (x' := (⟨t328, (⟨t329, t330⟩ : S22), t331, (⟨t332, t333, t334⟩ : S24)⟩ : S26)) (k26_mkM _ _ _ (⟨t328, (⟨t329, t330⟩ : S22), t331, (⟨t332, t333, t334⟩ : S24)⟩ : S26) ) (fun _ hk => hk); have hx45_0 := hcc45 0 _ rfl; (try simp only [show (k26).sz = 7 from rfl, Nat.mul_one, Nat.add_zero] at hx45_0); have hf45_0 := hfr45 0; (try simp only [show (k26).sz = 7 from rfl, Nat.mul_one, Nat.add_zero] at hf45_0); have hx45_1 := hcc45 1 _ rfl; (try simp only [show (k26).sz = 7 from rfl, Nat.mul_one, Nat.add_zero] at hx45_1); have hf45_1 := hfr45 1; (try simp only [show (k26).sz = 7 from rfl, Nat.mul_one, Nat.add_zero] at hf45_1); have hx45_2 := hcc45 2 _ rfl; (try simp only [show (k26).sz = 7 from rfl, Nat.mul_one, Nat.add_zero] at hx45_2); have hf45_2 := hfr45 2; (try simp only [show (k26).sz = 7 from rfl, Nat.mul_one, Nat.add_zero] at hf45_2); have hx45_3 := hcc45 3 _ rfl; (try simp only [show (k26).sz = 7 from rfl, Nat.mul_one, Nat.add_zero] at hx45_3); have hf45_3 := hfr45 3; (try simp only [show (k26).sz = 7 from rfl, Nat.mul_one, Nat.add_zero] at hf45_3); have hx45_4 := hcc45 4 _ rfl; (try simp only [show (k26).sz = 7 from rfl, Nat.mul_one, Nat.add_zero] at hx45_4); have hf45_4 := hfr45 4; (try simp only [show (k26).sz = 7 from rfl, Nat.mul_one, Nat.add_zero] at hf45_4); have hx45_5 := hcc45 5 _ rfl; (try simp only [show (k26).sz = 7 from rfl, Nat.mul_one, Nat.add_zero] at hx45_5); have hf45_5 := hfr45 5; (try simp only [show (k26).sz = 7 from rfl, Nat.mul_one, Nat.add_zero] at hf45_5); have hx45_6 := hcc45 6 _ rfl; (try simp only [show (k26).sz = 7 from rfl, Nat.mul_one, Nat.add_zero] at hx45_6); have hf45_6 := hfr45 6; (try simp only [show (k26).sz = 7 from rfl, Nat.mul_one, Nat.add_zero] at hf45_6); clear hcl45 hcc45 hfr45 hM45) | ((with_reducible refine gate_store (t := 26) (p := 55) rfl ?_); refine store_event (t := 26) (p := 55) (v := ?vo_w46) (w1 := (((((((w43.setCell ⟨go39, (a1 : Int).toNat * 7, none⟩ (.int .i32 t328)).setCell ⟨go39, (a1 : Int).toNat * 7 + 1, none⟩ (.int .i32 t329)).setCell ⟨go39, (a1 : Int).toNat * 7 + 2, none⟩ (.int .i32 t330)).setCell ⟨go39, (a1 : Int).toNat * 7 + 3, none⟩ (.int .u8 t331)).setCell ⟨go39, (a1 : Int).toNat * 7 + 4, none⟩ (.int .u8 t332)).setCell ⟨go39, (a1 : Int).toNat * 7 + 5, none⟩ (.int .u8 t333)).setCell ⟨go39, (a1 : Int).toNat * 7 + 6, none⟩ (.int .u8 t334))) ?hg ?ho ?hn ?hr ?_; (case ho => rfl); (case hg => rfl); (case hn => rfl); (case hr => first | (go_simp; done) | (go_simp; rfl)); intro w46 hw; have hg : w43.grownBy w46 (some go39) := (by rw [hw]; exact HP45.2); have hp_ : Kd.R k26 26 w46 w.heap.size (fun k_ => k_ ≠ gb336) (.slice (some ⟨go39, 0, none⟩) t300.length co39) y337 := (by rw [hw, Ny337.out]; exact HP45.1); clear HP45; have n0_ := aS (hp_); have n1_ := aS (blk_grown (g := gb336) (o := .cells #[.int .i32 t328, .int .i32 t329, .int .i32 t330, .int .u8 t331, .int .u8 t332, .int .u8 t333, .int .u8 t334] 26 (0, 0)) (by (with_reducible repeat (first | apply bN | apply bD | apply bA)); exact BK336.out) hg (Kd.R_away HO_8.out (fun _ hk => hk))); have n2_ := aS ((by rw [hw]; exact below_set (below_set (below_set (below_set (below_set (below_set (below_set (HB.out) GB39.out) GB39.out) GB39.out) GB39.out) GB39.out) GB39.out) GB39.out : Below w.heap.size w w46)); clear HO_8; clear BK336; clear HB; have HO_8 := n0_; have BK336 := n1_; have HB := n2_; clear n0_ n1_ n2_; clear hg hw hp_))
                  go_ret2
                  exact ⟨_, by first | rfl | (simp <;> rfl) | (simp [*] <;> rfl), by (with_reducible repeat (first | apply rA | apply rN | apply rD)); exact Kd.R_mono HO_8.out (fun _ hk => trivial), by repeat (first | (with_reducible first | exact HB.out | apply lA | apply lN | apply lD | refine below_set ?_ GE336.out) | exact HB.out)⟩
                · rw [if_neg c38] at H
                  exact absurd H (by simp)
            · rw [if_neg c11] at H
              have c11b0 : (((rd_T26 l0 a1).f2) == 0) = false := beq_eq_false_iff_ne.mpr c11
              have c11b1 : (((rd_T26 l0 a1).f2) != 0) = true := bne_iff_ne.mpr c11
              replace H := Option.bind_eq_some_iff.mp H
              obtain ⟨⟨t339, t340, t341, t342, t343, t344, t345, t346⟩, A470, H⟩ := H
              try dsimp only at H
              have A47 := Aside0.mk A470
              clear A470
              by_cases c48 : a1 < (t300.length : Int)
              · rw [if_pos c48] at H
                have c48b0 : decide (a1 < (t300.length : Int)) = true := decide_eq_true c48
                clear c48
                obtain ⟨y348, hy348⟩ : ∃ y_ : List (S26), y_ = (t300.set (a1 : Int).toNat (⟨t339, (⟨t340, t341⟩ : S22), t342, (⟨t343, t344, t345⟩ : S24)⟩ : S26)) := ⟨_, rfl⟩
                replace H : (some (y348, t346)) = some (r1, r2) := by first | (rw [hy348]; with_reducible exact H) | (have H2_ := (Option.bind_some _ _).symm.trans H; rw [hy348]; with_reducible exact H2_) | (have H2_ := (Option.bind_some _ _).symm.trans H; with_reducible exact H2_) | with_reducible exact H | (rw [hy348]; exact H) | exact H
                have Ny348 := Aside0.mk hy348
                clear hy348
                simp only [Option.some.injEq, Prod.mk.injEq] at H
                obtain ⟨rfl, rfl⟩ := H
                have p303 : 0 ≤ (a1 : Int) := of_decide_eq_true (by first | (with_reducible assumption) | assumption)
                have q303 : a1 < (l0.length : Int) := of_decide_eq_true (by first | (with_reducible assumption) | assumption)
                obtain ⟨ad303, e303, hx303_0, hx303_1, hx303_2, hx303_3, hx303_4, hx303_5, hx303_6⟩ := at_T26 HR0.out a1 p303 q303
                cases e303
                replace hx303_0 := (HB.out.cell (World.block_lt_of_cell? w _ hx303_0)).trans hx303_0
                replace hx303_1 := (HB.out.cell (World.block_lt_of_cell? w _ hx303_1)).trans hx303_1
                replace hx303_2 := (HB.out.cell (World.block_lt_of_cell? w _ hx303_2)).trans hx303_2
                replace hx303_3 := (HB.out.cell (World.block_lt_of_cell? w _ hx303_3)).trans hx303_3
                replace hx303_4 := (HB.out.cell (World.block_lt_of_cell? w _ hx303_4)).trans hx303_4
                replace hx303_5 := (HB.out.cell (World.block_lt_of_cell? w _ hx303_5)).trans hx303_5
                replace hx303_6 := (HB.out.cell (World.block_lt_of_cell? w _ hx303_6)).trans hx303_6
                replace p303 := eq_true p303
                replace q303 := eq_true q303
                have p338 : 0 ≤ (a1 : Int) := of_decide_eq_true (by first | (with_reducible assumption) | assumption)
                have q338 : a1 < (l0.length : Int) := of_decide_eq_true (by first | (with_reducible assumption) | assumption)
                obtain ⟨ad338, e338, hx338_0, hx338_1, hx338_2, hx338_3, hx338_4, hx338_5, hx338_6⟩ := at_T26 HR0.out a1 p338 q338
                obtain rfl : ad303 = ad338 := (by injection e338)
                replace hx338_0 := (HB.out.cell (World.block_lt_of_cell? w _ hx338_0)).trans hx338_0
                replace hx338_1 := (HB.out.cell (World.block_lt_of_cell? w _ hx338_1)).trans hx338_1
                replace hx338_2 := (HB.out.cell (World.block_lt_of_cell? w _ hx338_2)).trans hx338_2
                replace hx338_3 := (HB.out.cell (World.block_lt_of_cell? w _ hx338_3)).trans hx338_3
                replace hx338_4 := (HB.out.cell (World.block_lt_of_cell? w _ hx338_4)).trans hx338_4
                replace hx338_5 := (HB.out.cell (World.block_lt_of_cell? w _ hx338_5)).trans hx338_5
                replace hx338_6 := (HB.out.cell (World.block_lt_of_cell? w _ hx338_6)).trans hx338_6
                replace p338 := eq_true p338
                replace q338 := eq_true q338
                go_wp2_with (first | ((with_reducible refine gate_callee (f := 16) rfl ?_); refine goesL_ (some 49) rfl rfl Try.func16 (by kernel_rfl) rfl #[.agg #[.int .i32 ((rd_T26 l0 a1).f0), .int .i32 ((rd_T26 l0 a1).f1.f0), .int .i32 ((rd_T26 l0 a1).f1.f1), .int .u8 ((rd_T26 l0 a1).f2), .int .u8 ((rd_T26 l0 a1).f3.f0), .int .u8 ((rd_T26 l0 a1).f3.f1), .int .u8 ((rd_T26 l0 a1).f3.f2)], .int .i32 a2] rfl (by (try simp only [List.map_toArray, List.map_cons, List.map_nil]); first | done | rfl | (simp only [List.length_drop, List.length_take]; rfl)) ?_; (with_reducible refine (cell_Mark.calls ((rd_T26 l0 a1).f0) ((rd_T26 l0 a1).f1.f0) ((rd_T26 l0 a1).f1.f1) ((rd_T26 l0 a1).f2) ((rd_T26 l0 a1).f3.f0) ((rd_T26 l0 a1).f3.f1) ((rd_T26 l0 a1).f3.f2) a2 t339 t340 t341 t342 t343 t344 t345 t346 _ A47.out).mono ?_); rintro e w50 ⟨rfl, hb⟩; refine ⟨_, rfl, ?_⟩; have n0_ := aS (Kd.R_below (by (with_reducible repeat (first | apply rA | apply rN | apply rD)); exact HO_8.out) hb); have n1_ := aS (below_step (by repeat (first | (with_reducible first | exact HB.out | apply lA | apply lN | apply lD) | exact HB.out)) hb); clear HO_8; clear HB; have HO_8 := n0_; have HB := n1_; clear n0_ n1_; (try clear hb); (try clear hb2); (try clear hk); (try clear hi)) | ((with_reducible refine gate_dst (N := 9) rfl ?_); (try (refine gate_guard (by rfl) ?_; dsimp only)); refine box_event ?hg (N := 9) ?hd (cs := #[.int .i32 0, .int .i32 0, .int .i32 0, .int .u8 0, .int .u8 0, .int .u8 0, .int .u8 0]) (t := 26) ?hr ?_; (case hd => rfl); (case hg => rfl); (case hr => first | (go_simp; done) | (go_simp; rfl)); intro gb347 hg w51 hbox hb; have n0_ := aS (Kd.R_below (Kd.R_elderB (by (with_reducible repeat (first | apply rA | apply rN | apply rD)); exact HO_8.out) gb347 (Nat.le_of_eq hg.symm)) hb); have n1_ := aS (below_step (by repeat (first | (with_reducible first | exact HB.out | apply lA | apply lN | apply lD) | exact HB.out)) hb); have n2_ := aS (hbox); have n3_ := aS ((by rw [hg]; exact (below_size (by repeat (first | (with_reducible first | exact HB.out | apply lA | apply lN | apply lD) | exact HB.out))) : w.heap.size ≤ gb347)); have n4_ := aS ((by rw [hg]; exact (below_size (by repeat (first | (with_reducible first | exact HB.out | apply lA | apply lN | apply lD) | exact HB.out))) : w.heap.size ≤ gb347)); clear HO_8; clear HB; have HO_8 := n0_; have HB := n1_; have BK347 := n2_; have GW347 := n3_; have GE347 := n4_; clear n0_ n1_ n2_ n3_ n4_; clear hb hbox hg; obtain ⟨hcz52_0, hcz52_1, hcz52_2, hcz52_3, hcz52_4, hcz52_5, hcz52_6, hfz52_0, hfz52_1, hfz52_2, hfz52_3, hfz52_4, hfz52_5, hfz52_6⟩ := cel7 BK347.out) | ((with_reducible refine gate_store (t := 26) (p := 9) rfl ?_); refine store_event (t := 26) (p := 9) (v := ?vo_w53) (w1 := (((((((w51.setCell ⟨gb347, 0, none⟩ (.int .i32 t339)).setCell ⟨gb347, 1, none⟩ (.int .i32 t340)).setCell ⟨gb347, 2, none⟩ (.int .i32 t341)).setCell ⟨gb347, 3, none⟩ (.int .u8 t342)).setCell ⟨gb347, 4, none⟩ (.int .u8 t343)).setCell ⟨gb347, 5, none⟩ (.int .u8 t344)).setCell ⟨gb347, 6, none⟩ (.int .u8 t345))) ?hg ?ho ?hn ?hr ?_; (case ho => rfl); (case hg => rfl); (case hn => rfl); (case hr => first | (go_simp; done) | (go_simp; rfl)); intro w53 hw; have n0_ : Aside0 (Kd.R k26 26 w53 w.heap.size (fun k_ => k_ ≠ gb347) v301 t300) := ⟨(by rw [hw]; exact (by (with_reducible repeat (first | apply rA | apply rN | apply rD)); exact Kd.R_mono (Kd.R_far (p := ⟨gb347, 6, none⟩) (Kd.R_far (p := ⟨gb347, 5, none⟩) (Kd.R_far (p := ⟨gb347, 4, none⟩) (Kd.R_far (p := ⟨gb347, 3, none⟩) (Kd.R_far (p := ⟨gb347, 2, none⟩) (Kd.R_far (p := ⟨gb347, 1, none⟩) (Kd.R_far (p := ⟨gb347, 0, none⟩) (Kd.R_mono HO_8.out (fun k_ hk => (⟨hk, hk.2⟩ : _ ∧ k_ ≠ gb347))) (fun _ hk => hk.2) (.int .i32 t339)) (fun _ hk => hk.2) (.int .i32 t340)) (fun _ hk => hk.2) (.int .i32 t341)) (fun _ hk => hk.2) (.int .u8 t342)) (fun _ hk => hk.2) (.int .u8 t343)) (fun _ hk => hk.2) (.int .u8 t344)) (fun _ hk => hk.2) (.int .u8 t345)) (fun _ hk => hk.1.2)))⟩; have n1_ : Aside0 (w53.heap[gb347]? = some (.cells #[.int .i32 t339, .int .i32 t340, .int .i32 t341, .int .u8 t342, .int .u8 t343, .int .u8 t344, .int .u8 t345] 26 (0, 0))) := ⟨(by rw [hw]; exact (by (with_reducible repeat (first | apply bN | apply bD | apply bA)); refine blk_put (cs := #[.int .i32 t339, .int .i32 t340, .int .i32 t341, .int .u8 t342, .int .u8 t343, .int .u8 t344, .int .u8 0]) ?_ 6 _ rfl; refine blk_put (cs := #[.int .i32 t339, .int .i32 t340, .int .i32 t341, .int .u8 t342, .int .u8 t343, .int .u8 0, .int .u8 0]) ?_ 5 _ rfl; refine blk_put (cs := #[.int .i32 t339, .int .i32 t340, .int .i32 t341, .int .u8 t342, .int .u8 0, .int .u8 0, .int .u8 0]) ?_ 4 _ rfl; refine blk_put (cs := #[.int .i32 t339, .int .i32 t340, .int .i32 t341, .int .u8 0, .int .u8 0, .int .u8 0, .int .u8 0]) ?_ 3 _ rfl; refine blk_put (cs := #[.int .i32 t339, .int .i32 t340, .int .i32 0, .int .u8 0, .int .u8 0, .int .u8 0, .int .u8 0]) ?_ 2 _ rfl; refine blk_put (cs := #[.int .i32 t339, .int .i32 0, .int .i32 0, .int .u8 0, .int .u8 0, .int .u8 0, .int .u8 0]) ?_ 1 _ rfl; refine blk_put (cs := #[.int .i32 0, .int .i32 0, .int .i32 0, .int .u8 0, .int .u8 0, .int .u8 0, .int .u8 0]) ?_ 0 _ rfl; (with_reducible repeat (first | apply bN | apply bD | apply bA)); exact BK347.out))⟩; have n2_ : Aside0 (Below w.heap.size w w53) := ⟨(by rw [hw]; exact (by repeat (first | (with_reducible first | exact HB.out | apply lA | apply lN | apply lD | refine below_set ?_ GE347.out) | exact HB.out)))⟩; clear hw; clear HO_8; clear BK347; clear HB; have HO_8 := n0_; have BK347 := n1_; have HB := n2_; clear n0_ n1_ n2_; obtain ⟨hcz54_0, hcz54_1, hcz54_2, hcz54_3, hcz54_4, hcz54_5, hcz54_6, hfz54_0, hfz54_1, hfz54_2, hfz54_3, hfz54_4, hfz54_5, hfz54_6⟩ := cel7 BK347.out; have p49 : 0 ≤ (a1 : Int) := of_decide_eq_true (by first | (with_reducible assumption) | assumption); have q49 : (a1 : Int) < ((t300.length : Int) : Int) := of_decide_eq_true (by first | (with_reducible assumption) | assumption); obtain ⟨go49, co49, eo49, gb49, gl49, cl49, HG49⟩ := Kd.R_form HO_8.out (by omega); (first | cases eo49 | (injection eo49 with ea_ en_ ec_; (first | subst ea_ | (injection ea_ with ea_; subst ea_)); subst ec_; clear en_)); have GB49 := Aside0.mk gb49; have GG49 := Aside0.mk HG49; clear gb49 gl49 HG49; obtain ⟨ce49, hcl49, hM49, hcc49, hfr49⟩ := Kd.R_elem HO_8.out z26 (a1 : Int) p49 q49; obtain rfl := k26_openM hM49; have hx49_0 : w53.cell? ⟨go49, (a1 : Int).toNat * 7, none⟩ = some (.int .i32 ((rd_T26 t300 a1).f0)) := hcc49 0 _ rfl; have hx49_1 : w53.cell? ⟨go49, (a1 : Int).toNat * 7 + 1, none⟩ = some (.int .i32 ((rd_T26 t300 a1).f1.f0)) := hcc49 1 _ rfl; have hx49_2 : w53.cell? ⟨go49, (a1 : Int).toNat * 7 + 2, none⟩ = some (.int .i32 ((rd_T26 t300 a1).f1.f1)) := hcc49 2 _ rfl; have hx49_3 : w53.cell? ⟨go49, (a1 : Int).toNat * 7 + 3, none⟩ = some (.int .u8 ((rd_T26 t300 a1).f2)) := hcc49 3 _ rfl; have hx49_4 : w53.cell? ⟨go49, (a1 : Int).toNat * 7 + 4, none⟩ = some (.int .u8 ((rd_T26 t300 a1).f3.f0)) := hcc49 4 _ rfl; have hx49_5 : w53.cell? ⟨go49, (a1 : Int).toNat * 7 + 5, none⟩ = some (.int .u8 ((rd_T26 t300 a1).f3.f1)) := hcc49 5 _ rfl; have hx49_6 : w53.cell? ⟨go49, (a1 : Int).toNat * 7 + 6, none⟩ = some (.int .u8 ((rd_T26 t300 a1).f3.f2)) := hcc49 6 _ rfl; have hf49_0 : w53.frozen? ⟨go49, (a1 : Int).toNat * 7, none⟩ = false := hfr49 0; have hf49_1 : w53.frozen? ⟨go49, (a1 : Int).toNat * 7 + 1, none⟩ = false := hfr49 1; have hf49_2 : w53.frozen? ⟨go49, (a1 : Int).toNat * 7 + 2, none⟩ = false := hfr49 2; have hf49_3 : w53.frozen? ⟨go49, (a1 : Int).toNat * 7 + 3, none⟩ = false := hfr49 3; have hf49_4 : w53.frozen? ⟨go49, (a1 : Int).toNat * 7 + 4, none⟩ = false := hfr49 4; have hf49_5 : w53.frozen? ⟨go49, (a1 : Int).toNat * 7 + 5, none⟩ = false := hfr49 5; have hf49_6 : w53.frozen? ⟨go49, (a1 : Int).toNat * 7 + 6, none⟩ = false := hfr49 6; clear hcl49 hcc49 hfr49 hM49; replace p49 := eq_true p49; replace q49 := eq_true q49; have HX55 := aS (show Kd.R k26 26 w53 w.heap.size (fun k_ => k_ ≠ gb347) (.slice (some ⟨go49, 0, none⟩) t300.length co49) t300 from (by (with_reducible repeat (first | apply rA | apply rN | apply rD)); exact HO_8.out)); obtain ⟨ce55, hcl55, hM55, hcc55, hfr55⟩ := Kd.R_elem HX55.out z26 (a1 : Int) (of_decide_eq_true (by first | (with_reducible assumption) | assumption)) (by have h_ : (a1 : Int) < ((t300.length : Int) : Int) := of_decide_eq_true (by first | (with_reducible assumption) | assumption); first | exact h_ | (have e_ := (Kd.R_reads' HO_8.out).1; omega) | simpa using h_); obtain rfl := k26_openM hM55; have HP55 := Kd.R_seg HX55.out (a1 : Int) (of_decide_eq_true (by first | (with_reducible assumption) | assumption)) (by have h_ : (a1 : Int) < ((t300.length : Int) : Int) := of_decide_eq_true (by first | (with_reducible assumption) | assumption); first | exact h_ | (have e_ := (Kd.R_reads' HO_8.out).1; omega) | simpa using h_) (seg := [.int .i32 t339, .int .i32 t340, .int .i32 t341, .int .u8 t342, .int .u8 t343, .int .u8 t344, .int .u8 t345]) (j := 0) hcl55 hcc55 (show 7 ≤ 7 from by decide) (x' := (⟨t339, (⟨t340, t341⟩ : S22), t342, (⟨t343, t344, t345⟩ : S24)⟩ : S26)) (k26_mkM _ _ _ (⟨t339, (⟨t340, t341⟩ : S22), t342, (⟨t343, t344, t345⟩ : S24)⟩ : S26) ) (fun _ hk => hk); have hx55_0 := hcc55 0 _ rfl; (try simp only [show (k26).sz = 7 from rfl, Nat.mul_one, Nat.add_zero] at hx55_0); have hf55_0 := hfr55 0; (try simp only [show (k26).sz = 7 from rfl, Nat.mul_one, Nat.add_zero] at hf55_0); have hx55_1 := hcc55 1 _ rfl; (try simp only [show (k26).sz = 7 from rfl, Nat.mul_one, Nat.add_zero] at hx55_1); have hf55_1 := hfr55 1; (try simp only [show (k26).sz = 7 from rfl, Nat.mul_one, Nat.add_zero] at hf55_1); have hx55_2 := hcc55 2 _ rfl; (try simp only [show (k26).sz = 7 from rfl, Nat.mul_one, Nat.add_zero] at hx55_2); have hf55_2 := hfr55 2; (try simp only [show (k26).sz = 7 from rfl, Nat.mul_one, Nat.add_zero] at hf55_2); have hx55_3 := hcc55 3 _ rfl; (try simp only [show (k26).sz = 7 from rfl, Nat.mul_one, Nat.add_zero] at hx55_3); have hf55_3 := hfr55 3; (try simp only [show (k26).sz = 7 from rfl, Nat.mul_one, Nat.add_zero] at hf55_3); have hx55_4 := hcc55 4 _ rfl; (try simp only [show (k26).sz = 7 from rfl, Nat.mul_one, Nat.add_zero] at hx55_4); have hf55_4 := hfr55 4; (try simp only [show (k26).sz = 7 from rfl, Nat.mul_one, Nat.add_zero] at hf55_4); have hx55_5 := hcc55 5 _ rfl; (try simp only [show (k26).sz = 7 from rfl, Nat.mul_one, Nat.add_zero] at hx55_5); have hf55_5 := hfr55 5; (try simp only [show (k26).sz = 7 from rfl, Nat.mul_one, Nat.add_zero] at hf55_5); have hx55_6 := hcc55 6 _ rfl; (try simp only [show (k26).sz = 7 from rfl, Nat.mul_one, Nat.add_zero] at hx55_6); have hf55_6 := hfr55 6; (try simp only [show (k26).sz = 7 from rfl, Nat.mul_one, Nat.add_zero] at hf55_6); clear hcl55 hcc55 hfr55 hM55) | ((with_reducible refine gate_store (t := 26) (p := 55) rfl ?_); refine store_event (t := 26) (p := 55) (v := ?vo_w56) (w1 := (((((((w53.setCell ⟨go49, (a1 : Int).toNat * 7, none⟩ (.int .i32 t339)).setCell ⟨go49, (a1 : Int).toNat * 7 + 1, none⟩ (.int .i32 t340)).setCell ⟨go49, (a1 : Int).toNat * 7 + 2, none⟩ (.int .i32 t341)).setCell ⟨go49, (a1 : Int).toNat * 7 + 3, none⟩ (.int .u8 t342)).setCell ⟨go49, (a1 : Int).toNat * 7 + 4, none⟩ (.int .u8 t343)).setCell ⟨go49, (a1 : Int).toNat * 7 + 5, none⟩ (.int .u8 t344)).setCell ⟨go49, (a1 : Int).toNat * 7 + 6, none⟩ (.int .u8 t345))) ?hg ?ho ?hn ?hr ?_; (case ho => rfl); (case hg => rfl); (case hn => rfl); (case hr => first | (go_simp; done) | (go_simp; rfl)); intro w56 hw; have hg : w53.grownBy w56 (some go49) := (by rw [hw]; exact HP55.2); have hp_ : Kd.R k26 26 w56 w.heap.size (fun k_ => k_ ≠ gb347) (.slice (some ⟨go49, 0, none⟩) t300.length co49) y348 := (by rw [hw, Ny348.out]; exact HP55.1); clear HP55; have n0_ := aS (hp_); have n1_ := aS (blk_grown (g := gb347) (o := .cells #[.int .i32 t339, .int .i32 t340, .int .i32 t341, .int .u8 t342, .int .u8 t343, .int .u8 t344, .int .u8 t345] 26 (0, 0)) (by (with_reducible repeat (first | apply bN | apply bD | apply bA)); exact BK347.out) hg (Kd.R_away HO_8.out (fun _ hk => hk))); have n2_ := aS ((by rw [hw]; exact below_set (below_set (below_set (below_set (below_set (below_set (below_set (HB.out) GB49.out) GB49.out) GB49.out) GB49.out) GB49.out) GB49.out) GB49.out : Below w.heap.size w w56)); clear HO_8; clear BK347; clear HB; have HO_8 := n0_; have BK347 := n1_; have HB := n2_; clear n0_ n1_ n2_; clear hg hw hp_))
                go_ret2
                exact ⟨_, by first | rfl | (simp <;> rfl) | (simp [*] <;> rfl), by (with_reducible repeat (first | apply rA | apply rN | apply rD)); exact Kd.R_mono HO_8.out (fun _ hk => trivial), by repeat (first | (with_reducible first | exact HB.out | apply lA | apply lN | apply lD | refine below_set ?_ GE347.out) | exact HB.out)⟩
              · rw [if_neg c48] at H
                exact absurd H (by simp)
          · rw [if_neg c10] at H
            exact absurd H (by simp)
        · rw [if_neg c9] at H
          exact absurd H (by simp)

def prolepsisref05_Mark.j0 : Nat → Int → Bool → Int → Int → Int → Int → Int → Int → Int → Option (Int × Int × Int × Int × Int × Int × Int × Bool)
  | 0, _, _, _, _, _, _, _, _, _ => none
  | k + 1, x1, x18, x350000, x350001, x350002, x350003, x350004, x350005, x350006 => if x18 = true then (some (x350000, x350001, x350002, x350003, x350004, x350005, x350006, false)) else (if x350001 = 0 then (some (x350000, x1, x350002, x350003, x350004, x350005, x350006, true)) else (if x350002 = 0 then (some (x350000, x350001, x1, x350003, x350004, x350005, x350006, true)) else (some (x350000, x350001, x350002, x350003, x350004, x350005, x350006, false))))
def prolepsisref05_Mark.f (k : Nat) (a0_0 : Int) (a0_1 : Int) (a0_2 : Int) (a0_3 : Int) (a0_4 : Int) (a0_5 : Int) (a0_6 : Int) (a1 : Int) : Option (Int × Int × Int × Int × Int × Int × Int × Bool) := (prolepsisref03_Of.f k a1).bind fun t351 => (if t351 = 0 then (if a0_3 = 1 then (prolepsisref05_Mark.j0 k a1 false a0_0 a0_1 a0_2 a0_3 a0_4 a0_5 a0_6) else (prolepsisref05_Mark.j0 k a1 (a0_3 != 2) a0_0 a0_1 a0_2 a0_3 a0_4 a0_5 a0_6)) else (prolepsisref05_Mark.j0 k a1 true a0_0 a0_1 a0_2 a0_3 a0_4 a0_5 a0_6))
set_option maxHeartbeats 8000000 in
set_option maxRecDepth 100000 in
theorem prolepsisref05_Mark.calls (k : Nat) (a0_0 : Int) (a0_1 : Int) (a0_2 : Int) (a0_3 : Int) (a0_4 : Int) (a0_5 : Int) (a0_6 : Int) (a1 : Int) (r1 : Int) (r2 : Int) (r3 : Int) (r4 : Int) (r5 : Int) (r6 : Int) (r7 : Int) (r8 : Bool) (w : World) (h : prolepsisref05_Mark.f k a0_0 a0_1 a0_2 a0_3 a0_4 a0_5 a0_6 a1 = some (r1, r2, r3, r4, r5, r6, r7, r8)) :
    Calls Try.prog 17 #[.agg #[.int .i64 a0_0, .int .i64 a0_1, .int .i64 a0_2, .int .u8 a0_3, .int .u8 a0_4, .int .u8 a0_5, .int .u8 a0_6], .int .i64 a1] w fun e w' => e = .returned (.tuple #[.agg #[.int .i64 r1, .int .i64 r2, .int .i64 r3, .int .u8 r4, .int .u8 r5, .int .u8 r6, .int .u8 r7], .bool r8]) ∧ Below w.heap.size w w' := by
  have hu32 := Try.underlying32
  have HB := aS (Below.refl w.heap.size w)
  have H : ((prolepsisref03_Of.f k a1).bind fun t351 => (if t351 = 0 then (if a0_3 = 1 then (prolepsisref05_Mark.j0 k a1 false a0_0 a0_1 a0_2 a0_3 a0_4 a0_5 a0_6) else (prolepsisref05_Mark.j0 k a1 (a0_3 != 2) a0_0 a0_1 a0_2 a0_3 a0_4 a0_5 a0_6)) else (prolepsisref05_Mark.j0 k a1 true a0_0 a0_1 a0_2 a0_3 a0_4 a0_5 a0_6))) = some (r1, r2, r3, r4, r5, r6, r7, r8) := h
  clear h
  have HC3 := Aside0.mk H
  clear H
  go_enter Try.func17, Try.ntmps17
  go_upto_region 1 with (first | ((with_reducible refine gate_dst (N := 2) rfl ?_); refine box_event ?hg (N := 2) ?hd (cs := #[.int .i64 a0_0, .int .i64 a0_1, .int .i64 a0_2, .int .u8 a0_3, .int .u8 a0_4, .int .u8 a0_5, .int .u8 a0_6]) (t := 32) ?hr ?_; (case hd => rfl); (case hg => rfl); (case hr => first | (go_simp; done) | (go_simp; rfl)); intro gb349 hg w4 hbox hb; have n0_ := aS (below_step (by repeat (first | (with_reducible first | exact HB.out | apply lA | apply lN | apply lD) | exact HB.out)) hb); have n1_ := aS (hbox); have n2_ := aS ((by rw [hg]; exact (below_size (by repeat (first | (with_reducible first | exact HB.out | apply lA | apply lN | apply lD) | exact HB.out))) : w.heap.size ≤ gb349)); have n3_ := aS ((by rw [hg]; exact (below_size (by repeat (first | (with_reducible first | exact HB.out | apply lA | apply lN | apply lD) | exact HB.out))) : w.heap.size ≤ gb349)); clear HB; have HB := n0_; have BK349 := n1_; have GW349 := n2_; have GE349 := n3_; clear n0_ n1_ n2_ n3_; clear hb hbox hg) | ((with_reducible refine gate_dst (N := 4) rfl ?_); refine box_event ?hg (N := 4) ?hd (cs := #[.int .i64 0, .int .i64 0, .int .i64 0, .int .u8 0, .int .u8 0, .int .u8 0, .int .u8 0]) (t := 32) ?hr ?_; (case hd => rfl); (case hg => rfl); (case hr => first | (go_simp; done) | (go_simp; rfl)); intro gb350 hg w5 hbox hb; have n0_ := aS (blk_below (g := gb349) (o := .cells #[.int .i64 a0_0, .int .i64 a0_1, .int .i64 a0_2, .int .u8 a0_3, .int .u8 a0_4, .int .u8 a0_5, .int .u8 a0_6] 32 (0, 0)) (by (with_reducible repeat (first | apply bN | apply bD | apply bA)); exact BK349.out) hb); have n1_ := aS (below_step (by repeat (first | (with_reducible first | exact HB.out | apply lA | apply lN | apply lD | refine below_set ?_ GE349.out) | exact HB.out)) hb); have n2_ := aS (hbox); have n3_ := aS ((by rw [hg]; exact (below_size (by repeat (first | (with_reducible first | exact HB.out | apply lA | apply lN | apply lD | refine below_set ?_ GE349.out) | exact HB.out))) : w.heap.size ≤ gb350)); have n4_ := aS ((by rw [hg]; exact (below_size (by repeat (first | (with_reducible first | exact HB.out | apply lA | apply lN | apply lD | refine below_set ?_ GE349.out) | exact HB.out))) : w.heap.size ≤ gb350)); have n5_ := aS ((by rw [hg]; exact Nat.ne_of_lt (blk_lt (g := gb349) (o := .cells #[.int .i64 a0_0, .int .i64 a0_1, .int .i64 a0_2, .int .u8 a0_3, .int .u8 a0_4, .int .u8 a0_5, .int .u8 a0_6] 32 (0, 0)) (by (with_reducible repeat (first | apply bN | apply bD | apply bA)); exact BK349.out)) : gb349 ≠ gb350)); have n6_ := aS ((by rw [hg]; exact Nat.ne_of_gt (blk_lt (g := gb349) (o := .cells #[.int .i64 a0_0, .int .i64 a0_1, .int .i64 a0_2, .int .u8 a0_3, .int .u8 a0_4, .int .u8 a0_5, .int .u8 a0_6] 32 (0, 0)) (by (with_reducible repeat (first | apply bN | apply bD | apply bA)); exact BK349.out)) : gb350 ≠ gb349)); clear BK349; clear HB; have BK349 := n0_; have HB := n1_; have BK350 := n2_; have GW350 := n3_; have GE350 := n4_; have NB349_350 := n5_; have NB350_349 := n6_; clear n0_ n1_ n2_ n3_ n4_ n5_ n6_; clear hb hbox hg))
  (try simp only [Act.put, List.setIfInBounds_toArray, List.set_cons_zero, List.set_cons_succ])
  go_cut [18] (fun v18 wc => ∃ (kq : Nat) (x18_2 : Bool), v18 = .bool x18_2 ∧ Aside0 (prolepsisref05_Mark.j0 kq a1 x18_2 a0_0 a0_1 a0_2 a0_3 a0_4 a0_5 a0_6 = some (r1, r2, r3, r4, r5, r6, r7, r8)) ∧ Aside0 (kq ≤ k) ∧ Aside0 (wc.heap[gb349]? = some (.cells #[.int .i64 a0_0, .int .i64 a0_1, .int .i64 a0_2, .int .u8 a0_3, .int .u8 a0_4, .int .u8 a0_5, .int .u8 a0_6] 32 (0, 0))) ∧ Aside0 (wc.heap[gb350]? = some (.cells #[.int .i64 0, .int .i64 0, .int .i64 0, .int .u8 0, .int .u8 0, .int .u8 0, .int .u8 0] 32 (0, 0))) ∧ Aside0 (Below w.heap.size w wc))
  case first =>
    have H := HC3.out
    clear HC3
    replace H := Option.bind_eq_some_iff.mp H
    obtain ⟨t351, A60, H⟩ := H
    try dsimp only at H
    have A6 := Aside0.mk A60
    clear A60
    by_cases c7 : t351 = 0
    · rw [if_pos c7] at H
      have c7b0 : (t351 == 0) = true := beq_iff_eq.mpr c7
      have c7b1 : (t351 != 0) = false := bne_eq_false_iff_eq.mpr c7
      clear c7
      (first | rw [c7b0] | (simp only [i64_w, i32_w]; rw [c7b0]) | skip)
      by_cases c8 : a0_3 = 1
      · rw [if_pos c8] at H
        have c8b0 : (a0_3 == 1) = true := beq_iff_eq.mpr c8
        have c8b1 : (a0_3 != 1) = false := bne_eq_false_iff_eq.mpr c8
        clear c8
        have H' := Aside0.mk H
        clear H
        go_wp2_with (first | ((with_reducible refine gate_callee (f := 85) rfl ?_); refine goesL_ (some 7) rfl rfl Try.func85 (by kernel_rfl) rfl #[.int .i64 a1] rfl (by (try simp only [List.map_toArray, List.map_cons, List.map_nil]); first | done | rfl | (simp only [List.length_drop, List.length_take]; rfl)) ?_; (with_reducible refine (prolepsisref03_Of.calls k a1 t351 _ A6.out).mono ?_); rintro e w9 ⟨rfl, hb⟩; refine ⟨_, rfl, ?_⟩; have n0_ := aS (blk_below (g := gb349) (o := .cells #[.int .i64 a0_0, .int .i64 a0_1, .int .i64 a0_2, .int .u8 a0_3, .int .u8 a0_4, .int .u8 a0_5, .int .u8 a0_6] 32 (0, 0)) (by (with_reducible repeat (first | apply bN | apply bD | apply bA)); exact BK349.out) hb); have n1_ := aS (blk_below (g := gb350) (o := .cells #[.int .i64 0, .int .i64 0, .int .i64 0, .int .u8 0, .int .u8 0, .int .u8 0, .int .u8 0] 32 (0, 0)) (by (with_reducible repeat (first | apply bN | apply bD | apply bA)); exact BK350.out) hb); have n2_ := aS (below_step (by repeat (first | (with_reducible first | exact HB.out | apply lA | apply lN | apply lD | refine below_set ?_ GE349.out | refine below_set ?_ GE350.out) | exact HB.out)) hb); clear BK349; clear BK350; clear HB; have BK349 := n0_; have BK350 := n1_; have HB := n2_; clear n0_ n1_ n2_; (try clear hb); (try clear hb2); (try clear hk); (try clear hi); have hnb10 := NB349_350.out; have hnc10 := NB350_349.out; obtain ⟨hcz11_0, hcz11_1, hcz11_2, hcz11_3, hcz11_4, hcz11_5, hcz11_6, hfz11_0, hfz11_1, hfz11_2, hfz11_3, hfz11_4, hfz11_5, hfz11_6⟩ := cel7 BK349.out))
        go_meet
        case rel => exact ⟨_, (false), (by first | rfl | (simp; done) | (simp [*]; done)), H', ⟨by first | omega | exact Nat.le_refl _⟩, ⟨by (with_reducible repeat (first | apply bN | apply bD | apply bA)); exact BK349.out⟩, ⟨by (with_reducible repeat (first | apply bN | apply bD | apply bA)); exact BK350.out⟩, ⟨by repeat (first | (with_reducible first | exact HB.out | apply lA | apply lN | apply lD | refine below_set ?_ GE349.out | refine below_set ?_ GE350.out) | exact HB.out)⟩⟩
      · rw [if_neg c8] at H
        have c8b0 : (a0_3 == 1) = false := beq_eq_false_iff_ne.mpr c8
        have c8b1 : (a0_3 != 1) = true := bne_iff_ne.mpr c8
        have H' := Aside0.mk H
        clear H
        go_wp2_with (first | ((with_reducible refine gate_callee (f := 85) rfl ?_); refine goesL_ (some 7) rfl rfl Try.func85 (by kernel_rfl) rfl #[.int .i64 a1] rfl (by (try simp only [List.map_toArray, List.map_cons, List.map_nil]); first | done | rfl | (simp only [List.length_drop, List.length_take]; rfl)) ?_; (with_reducible refine (prolepsisref03_Of.calls k a1 t351 _ A6.out).mono ?_); rintro e w12 ⟨rfl, hb⟩; refine ⟨_, rfl, ?_⟩; have n0_ := aS (blk_below (g := gb349) (o := .cells #[.int .i64 a0_0, .int .i64 a0_1, .int .i64 a0_2, .int .u8 a0_3, .int .u8 a0_4, .int .u8 a0_5, .int .u8 a0_6] 32 (0, 0)) (by (with_reducible repeat (first | apply bN | apply bD | apply bA)); exact BK349.out) hb); have n1_ := aS (blk_below (g := gb350) (o := .cells #[.int .i64 0, .int .i64 0, .int .i64 0, .int .u8 0, .int .u8 0, .int .u8 0, .int .u8 0] 32 (0, 0)) (by (with_reducible repeat (first | apply bN | apply bD | apply bA)); exact BK350.out) hb); have n2_ := aS (below_step (by repeat (first | (with_reducible first | exact HB.out | apply lA | apply lN | apply lD | refine below_set ?_ GE349.out | refine below_set ?_ GE350.out) | exact HB.out)) hb); clear BK349; clear BK350; clear HB; have BK349 := n0_; have BK350 := n1_; have HB := n2_; clear n0_ n1_ n2_; (try clear hb); (try clear hb2); (try clear hk); (try clear hi); have hnb13 := NB349_350.out; have hnc13 := NB350_349.out; obtain ⟨hcz14_0, hcz14_1, hcz14_2, hcz14_3, hcz14_4, hcz14_5, hcz14_6, hfz14_0, hfz14_1, hfz14_2, hfz14_3, hfz14_4, hfz14_5, hfz14_6⟩ := cel7 BK349.out))
        go_meet
        case rel => exact ⟨_, ((a0_3 != 2)), (by first | rfl | (simp; done) | (simp [*]; done)), H', ⟨by first | omega | exact Nat.le_refl _⟩, ⟨by (with_reducible repeat (first | apply bN | apply bD | apply bA)); exact BK349.out⟩, ⟨by (with_reducible repeat (first | apply bN | apply bD | apply bA)); exact BK350.out⟩, ⟨by repeat (first | (with_reducible first | exact HB.out | apply lA | apply lN | apply lD | refine below_set ?_ GE349.out | refine below_set ?_ GE350.out) | exact HB.out)⟩⟩
    · rw [if_neg c7] at H
      have c7b0 : (t351 == 0) = false := beq_eq_false_iff_ne.mpr c7
      have c7b1 : (t351 != 0) = true := bne_iff_ne.mpr c7
      (first | rw [c7b0] | (simp only [i64_w, i32_w]; rw [c7b0]) | skip)
      have H' := Aside0.mk H
      clear H
      go_wp2_with (first | ((with_reducible refine gate_callee (f := 85) rfl ?_); refine goesL_ (some 7) rfl rfl Try.func85 (by kernel_rfl) rfl #[.int .i64 a1] rfl (by (try simp only [List.map_toArray, List.map_cons, List.map_nil]); first | done | rfl | (simp only [List.length_drop, List.length_take]; rfl)) ?_; (with_reducible refine (prolepsisref03_Of.calls k a1 t351 _ A6.out).mono ?_); rintro e w15 ⟨rfl, hb⟩; refine ⟨_, rfl, ?_⟩; have n0_ := aS (blk_below (g := gb349) (o := .cells #[.int .i64 a0_0, .int .i64 a0_1, .int .i64 a0_2, .int .u8 a0_3, .int .u8 a0_4, .int .u8 a0_5, .int .u8 a0_6] 32 (0, 0)) (by (with_reducible repeat (first | apply bN | apply bD | apply bA)); exact BK349.out) hb); have n1_ := aS (blk_below (g := gb350) (o := .cells #[.int .i64 0, .int .i64 0, .int .i64 0, .int .u8 0, .int .u8 0, .int .u8 0, .int .u8 0] 32 (0, 0)) (by (with_reducible repeat (first | apply bN | apply bD | apply bA)); exact BK350.out) hb); have n2_ := aS (below_step (by repeat (first | (with_reducible first | exact HB.out | apply lA | apply lN | apply lD | refine below_set ?_ GE349.out | refine below_set ?_ GE350.out) | exact HB.out)) hb); clear BK349; clear BK350; clear HB; have BK349 := n0_; have BK350 := n1_; have HB := n2_; clear n0_ n1_ n2_; (try clear hb); (try clear hb2); (try clear hk); (try clear hi)))
      go_meet
      case rel => exact ⟨_, (true), (by first | rfl | (simp; done) | (simp [*]; done)), H', ⟨by first | omega | exact Nat.le_refl _⟩, ⟨by (with_reducible repeat (first | apply bN | apply bD | apply bA)); exact BK349.out⟩, ⟨by (with_reducible repeat (first | apply bN | apply bD | apply bA)); exact BK350.out⟩, ⟨by repeat (first | (with_reducible first | exact HB.out | apply lA | apply lN | apply lD | refine below_set ?_ GE349.out | refine below_set ?_ GE350.out) | exact HB.out)⟩⟩
  case rest =>
    clear HC3
    try clear c1
    try clear p2
    try clear c7
    try clear c7b0
    try clear c7b1
    try clear c8
    try clear c8b0
    try clear c8b1
    try clear c10
    try clear c13
    try clear hcz11_0
    try clear hcz11_1
    try clear hcz11_2
    try clear hcz11_3
    try clear hcz11_4
    try clear hcz11_5
    try clear hcz11_6
    try clear hcz14_0
    try clear hcz14_1
    try clear hcz14_2
    try clear hcz14_3
    try clear hcz14_4
    try clear hcz14_5
    try clear hcz14_6
    try clear hfz11_0
    try clear hfz11_1
    try clear hfz11_2
    try clear hfz11_3
    try clear hfz11_4
    try clear hfz11_5
    try clear hfz11_6
    try clear hfz14_0
    try clear hfz14_1
    try clear hfz14_2
    try clear hfz14_3
    try clear hfz14_4
    try clear hfz14_5
    try clear hfz14_6
    obtain ⟨kq, x18_2, rfl, HA, HJ2, BK349, BK350, HB⟩ := hcut
    cases kq with
    | zero => exact absurd HA.out (by simp [prolepsisref05_Mark.j0])
    | succ kj2 =>
      have H := HA.out
      clear HA
      simp only [prolepsisref05_Mark.j0] at H
      by_cases c16 : x18_2 = true
      · subst c16
        have H1 : (some (a0_0, a0_1, a0_2, a0_3, a0_4, a0_5, a0_6, false)) = some (r1, r2, r3, r4, r5, r6, r7, r8) := by rw [if_pos rfl] at H; exact H
        clear H
        have H := H1
        clear H1
        simp only [Option.some.injEq, Prod.mk.injEq] at H
        obtain ⟨rfl, rfl, rfl, rfl, rfl, rfl, rfl, rfl⟩ := H
        have hnb17 := NB349_350.out
        have hnc17 := NB350_349.out
        obtain ⟨hcz18_0, hcz18_1, hcz18_2, hcz18_3, hcz18_4, hcz18_5, hcz18_6, hfz18_0, hfz18_1, hfz18_2, hfz18_3, hfz18_4, hfz18_5, hfz18_6⟩ := cel7 BK349.out
        obtain ⟨hcz19_0, hcz19_1, hcz19_2, hcz19_3, hcz19_4, hcz19_5, hcz19_6, hfz19_0, hfz19_1, hfz19_2, hfz19_3, hfz19_4, hfz19_5, hfz19_6⟩ := cel7 BK350.out
        go_wp2
        refine bodyPost_ret (results_ct rfl _ _ gb350 32 #[.int .i64 a0_0, .int .i64 a0_1, .int .i64 a0_2, .int .u8 a0_3, .int .u8 a0_4, .int .u8 a0_5, .int .u8 a0_6] (0, 0) _ rfl (by (with_reducible repeat (first | apply bN | apply bD | apply bA)); refine blk_put (cs := #[.int .i64 a0_0, .int .i64 a0_1, .int .i64 a0_2, .int .u8 a0_3, .int .u8 a0_4, .int .u8 a0_5, .int .u8 0]) ?_ 6 _ rfl; refine blk_put (cs := #[.int .i64 a0_0, .int .i64 a0_1, .int .i64 a0_2, .int .u8 a0_3, .int .u8 a0_4, .int .u8 0, .int .u8 0]) ?_ 5 _ rfl; refine blk_put (cs := #[.int .i64 a0_0, .int .i64 a0_1, .int .i64 a0_2, .int .u8 a0_3, .int .u8 0, .int .u8 0, .int .u8 0]) ?_ 4 _ rfl; refine blk_put (cs := #[.int .i64 a0_0, .int .i64 a0_1, .int .i64 a0_2, .int .u8 0, .int .u8 0, .int .u8 0, .int .u8 0]) ?_ 3 _ rfl; refine blk_put (cs := #[.int .i64 a0_0, .int .i64 a0_1, .int .i64 0, .int .u8 0, .int .u8 0, .int .u8 0, .int .u8 0]) ?_ 2 _ rfl; refine blk_put (cs := #[.int .i64 a0_0, .int .i64 0, .int .i64 0, .int .u8 0, .int .u8 0, .int .u8 0, .int .u8 0]) ?_ 1 _ rfl; refine blk_put (cs := #[.int .i64 0, .int .i64 0, .int .i64 0, .int .u8 0, .int .u8 0, .int .u8 0, .int .u8 0]) ?_ 0 _ rfl; (with_reducible repeat (first | apply bN | apply bD | apply bA)); exact BK350.out) Try.underlying32 rfl (by kernel_rfl)) rfl ?_
        exact ⟨by first | rfl | (simp <;> rfl) | (simp [*] <;> rfl), by repeat (first | (with_reducible first | exact HB.out | apply lA | apply lN | apply lD | refine below_set ?_ GE349.out | refine below_set ?_ GE350.out) | exact HB.out)⟩
      · replace c16 := Bool.eq_false_iff.mpr c16
        subst c16
        have H1 : (if a0_1 = 0 then (some (a0_0, a1, a0_2, a0_3, a0_4, a0_5, a0_6, true)) else (if a0_2 = 0 then (some (a0_0, a0_1, a1, a0_3, a0_4, a0_5, a0_6, true)) else (some (a0_0, a0_1, a0_2, a0_3, a0_4, a0_5, a0_6, false)))) = some (r1, r2, r3, r4, r5, r6, r7, r8) := by rw [if_neg (show ¬ (false = true) by decide)] at H; exact H
        clear H
        have H := H1
        clear H1
        by_cases c20 : a0_1 = 0
        · rw [if_pos c20] at H
          have c20b0 : (a0_1 == 0) = true := beq_iff_eq.mpr c20
          have c20b1 : (a0_1 != 0) = false := bne_eq_false_iff_eq.mpr c20
          clear c20
          simp only [Option.some.injEq, Prod.mk.injEq] at H
          obtain ⟨rfl, rfl, rfl, rfl, rfl, rfl, rfl, rfl⟩ := H
          have hnb21 := NB349_350.out
          have hnc21 := NB350_349.out
          obtain ⟨hcz22_0, hcz22_1, hcz22_2, hcz22_3, hcz22_4, hcz22_5, hcz22_6, hfz22_0, hfz22_1, hfz22_2, hfz22_3, hfz22_4, hfz22_5, hfz22_6⟩ := cel7 BK349.out
          obtain ⟨hcz23_0, hcz23_1, hcz23_2, hcz23_3, hcz23_4, hcz23_5, hcz23_6, hfz23_0, hfz23_1, hfz23_2, hfz23_3, hfz23_4, hfz23_5, hfz23_6⟩ := cel7 BK350.out
          go_wp2
          refine bodyPost_ret (results_ct rfl _ _ gb350 32 #[.int .i64 a0_0, .int .i64 a1, .int .i64 a0_2, .int .u8 a0_3, .int .u8 a0_4, .int .u8 a0_5, .int .u8 a0_6] (0, 0) _ rfl (by (with_reducible repeat (first | apply bN | apply bD | apply bA)); refine blk_put (cs := #[.int .i64 a0_0, .int .i64 a1, .int .i64 a0_2, .int .u8 a0_3, .int .u8 a0_4, .int .u8 a0_5, .int .u8 0]) ?_ 6 _ rfl; refine blk_put (cs := #[.int .i64 a0_0, .int .i64 a1, .int .i64 a0_2, .int .u8 a0_3, .int .u8 a0_4, .int .u8 0, .int .u8 0]) ?_ 5 _ rfl; refine blk_put (cs := #[.int .i64 a0_0, .int .i64 a1, .int .i64 a0_2, .int .u8 a0_3, .int .u8 0, .int .u8 0, .int .u8 0]) ?_ 4 _ rfl; refine blk_put (cs := #[.int .i64 a0_0, .int .i64 a1, .int .i64 a0_2, .int .u8 0, .int .u8 0, .int .u8 0, .int .u8 0]) ?_ 3 _ rfl; refine blk_put (cs := #[.int .i64 a0_0, .int .i64 a1, .int .i64 0, .int .u8 0, .int .u8 0, .int .u8 0, .int .u8 0]) ?_ 2 _ rfl; refine blk_put (cs := #[.int .i64 a0_0, .int .i64 0, .int .i64 0, .int .u8 0, .int .u8 0, .int .u8 0, .int .u8 0]) ?_ 1 _ rfl; refine blk_put (cs := #[.int .i64 0, .int .i64 0, .int .i64 0, .int .u8 0, .int .u8 0, .int .u8 0, .int .u8 0]) ?_ 0 _ rfl; refine blk_far ?_ NB350_349.out _; (with_reducible repeat (first | apply bN | apply bD | apply bA)); exact BK350.out) Try.underlying32 rfl (by kernel_rfl)) rfl ?_
          exact ⟨by first | rfl | (simp <;> rfl) | (simp [*] <;> rfl), by repeat (first | (with_reducible first | exact HB.out | apply lA | apply lN | apply lD | refine below_set ?_ GE349.out | refine below_set ?_ GE350.out) | exact HB.out)⟩
        · rw [if_neg c20] at H
          have c20b0 : (a0_1 == 0) = false := beq_eq_false_iff_ne.mpr c20
          have c20b1 : (a0_1 != 0) = true := bne_iff_ne.mpr c20
          by_cases c24 : a0_2 = 0
          · rw [if_pos c24] at H
            have c24b0 : (a0_2 == 0) = true := beq_iff_eq.mpr c24
            have c24b1 : (a0_2 != 0) = false := bne_eq_false_iff_eq.mpr c24
            clear c24
            simp only [Option.some.injEq, Prod.mk.injEq] at H
            obtain ⟨rfl, rfl, rfl, rfl, rfl, rfl, rfl, rfl⟩ := H
            have hnb25 := NB349_350.out
            have hnc25 := NB350_349.out
            obtain ⟨hcz26_0, hcz26_1, hcz26_2, hcz26_3, hcz26_4, hcz26_5, hcz26_6, hfz26_0, hfz26_1, hfz26_2, hfz26_3, hfz26_4, hfz26_5, hfz26_6⟩ := cel7 BK349.out
            obtain ⟨hcz27_0, hcz27_1, hcz27_2, hcz27_3, hcz27_4, hcz27_5, hcz27_6, hfz27_0, hfz27_1, hfz27_2, hfz27_3, hfz27_4, hfz27_5, hfz27_6⟩ := cel7 BK350.out
            go_wp2
            refine bodyPost_ret (results_ct rfl _ _ gb350 32 #[.int .i64 a0_0, .int .i64 a0_1, .int .i64 a1, .int .u8 a0_3, .int .u8 a0_4, .int .u8 a0_5, .int .u8 a0_6] (0, 0) _ rfl (by (with_reducible repeat (first | apply bN | apply bD | apply bA)); refine blk_put (cs := #[.int .i64 a0_0, .int .i64 a0_1, .int .i64 a1, .int .u8 a0_3, .int .u8 a0_4, .int .u8 a0_5, .int .u8 0]) ?_ 6 _ rfl; refine blk_put (cs := #[.int .i64 a0_0, .int .i64 a0_1, .int .i64 a1, .int .u8 a0_3, .int .u8 a0_4, .int .u8 0, .int .u8 0]) ?_ 5 _ rfl; refine blk_put (cs := #[.int .i64 a0_0, .int .i64 a0_1, .int .i64 a1, .int .u8 a0_3, .int .u8 0, .int .u8 0, .int .u8 0]) ?_ 4 _ rfl; refine blk_put (cs := #[.int .i64 a0_0, .int .i64 a0_1, .int .i64 a1, .int .u8 0, .int .u8 0, .int .u8 0, .int .u8 0]) ?_ 3 _ rfl; refine blk_put (cs := #[.int .i64 a0_0, .int .i64 a0_1, .int .i64 0, .int .u8 0, .int .u8 0, .int .u8 0, .int .u8 0]) ?_ 2 _ rfl; refine blk_put (cs := #[.int .i64 a0_0, .int .i64 0, .int .i64 0, .int .u8 0, .int .u8 0, .int .u8 0, .int .u8 0]) ?_ 1 _ rfl; refine blk_put (cs := #[.int .i64 0, .int .i64 0, .int .i64 0, .int .u8 0, .int .u8 0, .int .u8 0, .int .u8 0]) ?_ 0 _ rfl; refine blk_far ?_ NB350_349.out _; (with_reducible repeat (first | apply bN | apply bD | apply bA)); exact BK350.out) Try.underlying32 rfl (by kernel_rfl)) rfl ?_
            exact ⟨by first | rfl | (simp <;> rfl) | (simp [*] <;> rfl), by repeat (first | (with_reducible first | exact HB.out | apply lA | apply lN | apply lD | refine below_set ?_ GE349.out | refine below_set ?_ GE350.out) | exact HB.out)⟩
          · rw [if_neg c24] at H
            have c24b0 : (a0_2 == 0) = false := beq_eq_false_iff_ne.mpr c24
            have c24b1 : (a0_2 != 0) = true := bne_iff_ne.mpr c24
            simp only [Option.some.injEq, Prod.mk.injEq] at H
            obtain ⟨rfl, rfl, rfl, rfl, rfl, rfl, rfl, rfl⟩ := H
            have hnb28 := NB349_350.out
            have hnc28 := NB350_349.out
            obtain ⟨hcz29_0, hcz29_1, hcz29_2, hcz29_3, hcz29_4, hcz29_5, hcz29_6, hfz29_0, hfz29_1, hfz29_2, hfz29_3, hfz29_4, hfz29_5, hfz29_6⟩ := cel7 BK349.out
            obtain ⟨hcz30_0, hcz30_1, hcz30_2, hcz30_3, hcz30_4, hcz30_5, hcz30_6, hfz30_0, hfz30_1, hfz30_2, hfz30_3, hfz30_4, hfz30_5, hfz30_6⟩ := cel7 BK350.out
            go_wp2
            refine bodyPost_ret (results_ct rfl _ _ gb350 32 #[.int .i64 a0_0, .int .i64 a0_1, .int .i64 a0_2, .int .u8 a0_3, .int .u8 a0_4, .int .u8 a0_5, .int .u8 a0_6] (0, 0) _ rfl (by (with_reducible repeat (first | apply bN | apply bD | apply bA)); refine blk_put (cs := #[.int .i64 a0_0, .int .i64 a0_1, .int .i64 a0_2, .int .u8 a0_3, .int .u8 a0_4, .int .u8 a0_5, .int .u8 0]) ?_ 6 _ rfl; refine blk_put (cs := #[.int .i64 a0_0, .int .i64 a0_1, .int .i64 a0_2, .int .u8 a0_3, .int .u8 a0_4, .int .u8 0, .int .u8 0]) ?_ 5 _ rfl; refine blk_put (cs := #[.int .i64 a0_0, .int .i64 a0_1, .int .i64 a0_2, .int .u8 a0_3, .int .u8 0, .int .u8 0, .int .u8 0]) ?_ 4 _ rfl; refine blk_put (cs := #[.int .i64 a0_0, .int .i64 a0_1, .int .i64 a0_2, .int .u8 0, .int .u8 0, .int .u8 0, .int .u8 0]) ?_ 3 _ rfl; refine blk_put (cs := #[.int .i64 a0_0, .int .i64 a0_1, .int .i64 0, .int .u8 0, .int .u8 0, .int .u8 0, .int .u8 0]) ?_ 2 _ rfl; refine blk_put (cs := #[.int .i64 a0_0, .int .i64 0, .int .i64 0, .int .u8 0, .int .u8 0, .int .u8 0, .int .u8 0]) ?_ 1 _ rfl; refine blk_put (cs := #[.int .i64 0, .int .i64 0, .int .i64 0, .int .u8 0, .int .u8 0, .int .u8 0, .int .u8 0]) ?_ 0 _ rfl; (with_reducible repeat (first | apply bN | apply bD | apply bA)); exact BK350.out) Try.underlying32 rfl (by kernel_rfl)) rfl ?_
            exact ⟨by first | rfl | (simp <;> rfl) | (simp [*] <;> rfl), by repeat (first | (with_reducible first | exact HB.out | apply lA | apply lN | apply lD | refine below_set ?_ GE349.out | refine below_set ?_ GE350.out) | exact HB.out)⟩

end Go.Proofs.Ytblcmcdifgclcaa.PLineMakes
