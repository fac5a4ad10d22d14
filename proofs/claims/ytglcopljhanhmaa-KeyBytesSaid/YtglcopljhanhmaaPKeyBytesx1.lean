/- What the law KeyBytes reaches: each function with its contract. -/
import Derived.Test.YtglcopljhanhmaaPKeyBytesx0
namespace Go.Proofs.Ytglcopljhanhmaa.PKeyBytes
open Go.RowKit Go.Proofs.YtglcopljhanhmaaW.PrintWords Go.Proofs.YtglcopljhanhmaaW.PrintLast Go.Proofs.YtglcopljhanhmaaW.PrintMore
attribute [local go_sem] isSome_setCell max2_int min2_int max_two min_two max_three min_three max_four min_four   -- for this text's walks alone
set_option linter.unusedVariables false
set_option linter.unusedSimpArgs false

/-! ### utf_lead: function 66 -/
mutual
def utf_lead.j0 : Nat → Int → Int → Int → Bool → Option (Int × Int × Int)
  | 0, _, _, _, _ => none
  | k + 1, x0, x5, x6, x13 => if x13 = true then (some (0, x5, x6)) else (if x0 < 224 then (some (2, x5, x6)) else (if x0 = 224 then (some (3, 160, x6)) else (if x0 = 237 then (some (3, x5, 159)) else (if x0 = 240 then (some (4, 144, x6)) else (if x0 = 241 then (utf_lead.j1 k x5 x6 3 x0 (x0 == 241)) else (if x0 = 242 then (utf_lead.j1 k x5 x6 3 x0 (x0 == 242)) else (utf_lead.j1 k x5 x6 3 x0 (x0 == 243))))))))
def utf_lead.j1 : Nat → Int → Int → Int → Int → Bool → Option (Int × Int × Int)
  | 0, _, _, _, _, _ => none
  | k + 1, x5, x6, x7, x27, x34 => if x34 = true then (some (4, x5, x6)) else (if x27 = 244 then (some (4, x5, 143)) else (some (x7, x5, x6)))
end
def utf_lead.f (k : Nat) (a0 : Int) : Option (Int × Int × Int) := if a0 < 128 then (some (1, 128, 191)) else (if a0 < 194 then (utf_lead.j0 k a0 128 191 true) else (utf_lead.j0 k a0 128 191 (decide (a0 > 244))))
theorem utf_lead.mono_l : ∀ k, (∀ y0 y1 y2 y3, LeO (utf_lead.j0 k y0 y1 y2 y3) (utf_lead.j0 (k + 1) y0 y1 y2 y3)) ∧ (∀ y0 y1 y2 y3 y4, LeO (utf_lead.j1 k y0 y1 y2 y3 y4) (utf_lead.j1 (k + 1) y0 y1 y2 y3 y4))
  | 0 => ⟨fun _ _ _ _ r h => by simp [utf_lead.j0] at h, fun _ _ _ _ _ r h => by simp [utf_lead.j1] at h⟩
  | k + 1 => by
    obtain ⟨ih0, ih1⟩ := utf_lead.mono_l k
    refine ⟨?_, ?_⟩
    · intro y0 y1 y2 y3
      unfold utf_lead.j0
      repeat' first
      | (with_reducible exact ih0 _ _ _ _)
      | (with_reducible exact ih1 _ _ _ _ _)
      | (with_reducible exact LeO.refl _)
      | (with_reducible exact LeO.none _)
      | (with_reducible refine LeO.ite ?_ ?_)
      | (with_reducible refine LeO.bind ?_ (fun _ => ?_))
      | exact ih0 _ _ _ _
      | exact ih1 _ _ _ _ _
      | exact LeO.none _
      | refine LeO.ite ?_ ?_
      | refine LeO.bind ?_ (fun _ => ?_)
    · intro y0 y1 y2 y3 y4
      unfold utf_lead.j1
      repeat' first
      | (with_reducible exact ih0 _ _ _ _)
      | (with_reducible exact ih1 _ _ _ _ _)
      | (with_reducible exact LeO.refl _)
      | (with_reducible exact LeO.none _)
      | (with_reducible refine LeO.ite ?_ ?_)
      | (with_reducible refine LeO.bind ?_ (fun _ => ?_))
      | exact ih0 _ _ _ _
      | exact ih1 _ _ _ _ _
      | exact LeO.none _
      | refine LeO.ite ?_ ?_
      | refine LeO.bind ?_ (fun _ => ?_)
theorem utf_lead.mono : ∀ a0 k, LeO (utf_lead.f k a0) (utf_lead.f (k + 1) a0) := by
  intro a0 k
  obtain ⟨ih0, ih1⟩ := utf_lead.mono_l k
  unfold utf_lead.f
  repeat' first
      | (with_reducible exact ih0 _ _ _ _)
      | (with_reducible exact ih1 _ _ _ _ _)
      | (with_reducible exact LeO.refl _)
      | (with_reducible exact LeO.none _)
      | (with_reducible refine LeO.ite ?_ ?_)
      | (with_reducible refine LeO.bind ?_ (fun _ => ?_))
      | exact ih0 _ _ _ _
      | exact ih1 _ _ _ _ _
      | exact LeO.none _
      | refine LeO.ite ?_ ?_
      | refine LeO.bind ?_ (fun _ => ?_)
set_option maxHeartbeats 8000000 in
set_option maxRecDepth 100000 in
theorem utf_lead.calls (k : Nat) (a0 : Int) (r1 : Int) (r2 : Int) (r3 : Int) (w : World) (h : utf_lead.f k a0 = some (r1, r2, r3)) :
    Calls Try.prog 66 #[.int .u8 a0] w fun e w' => e = .returned (.tuple #[.int .i64 r1, .int .u8 r2, .int .u8 r3]) ∧ Drawn0 w w' := by
  have H : (if a0 < 128 then (some (1, 128, 191)) else (if a0 < 194 then (utf_lead.j0 k a0 128 191 true) else (utf_lead.j0 k a0 128 191 (decide (a0 > 244))))) = some (r1, r2, r3) := h
  clear h
  by_cases c2 : a0 < 128
  · rw [if_pos c2] at H
    have c2b0 : decide (a0 < 128) = true := decide_eq_true c2
    clear c2
    simp only [Option.some.injEq, Prod.mk.injEq] at H
    obtain ⟨rfl, rfl, rfl⟩ := H
    go_enter Try.func66, Try.ntmps66
    go_wp2
    go_ret3
    exact ⟨by first | rfl | (simp; done) | (simp [*]; done), by repeat (first | exact Drawn0.refl _ | apply Drawn0.step)⟩
  · rw [if_neg c2] at H
    have c2b0 : decide (a0 < 128) = false := decide_eq_false c2
    clear c2
    have HC3 := Aside0.mk H
    clear H
    go_enter Try.func66, Try.ntmps66
    go_upto_region 4 with (fail)
    go_cut [13] (fun v13 wc => ∃ (kq : Nat) (x13_2 : Bool), v13 = .bool x13_2 ∧ Aside0 (utf_lead.j0 kq a0 128 191 x13_2 = some (r1, r2, r3)) ∧ Aside0 (kq ≤ k) ∧ Drawn0 w wc)
    case first =>
      have H := HC3.out
      clear HC3
      by_cases c4 : a0 < 194
      · rw [if_pos c4] at H
        have c4b0 : decide (a0 < 194) = true := decide_eq_true c4
        clear c4
        (first | rw [c4b0] | (simp only [i64_w, i32_w]; rw [c4b0]) | skip)
        have H' := Aside0.mk H
        clear H
        go_wp2
        go_meet
        case rel => exact ⟨_, (true), (by first | rfl | (simp; done) | (simp [*]; done)), H', ⟨by first | omega | exact Nat.le_refl _⟩, by repeat (first | exact Drawn0.refl _ | apply Drawn0.step)⟩
      · rw [if_neg c4] at H
        have c4b0 : decide (a0 < 194) = false := decide_eq_false c4
        clear c4
        (first | rw [c4b0] | (simp only [i64_w, i32_w]; rw [c4b0]) | skip)
        have H' := Aside0.mk H
        clear H
        go_wp2
        go_meet
        case rel => exact ⟨_, (decide (a0 > 244)), (by first | rfl | (simp; done) | (simp [*]; done)), H', ⟨by first | omega | exact Nat.le_refl _⟩, by repeat (first | exact Drawn0.refl _ | apply Drawn0.step)⟩
    case rest =>
      clear HC3
      try clear c2
      try clear c2b0
      try clear p2
      try clear c4
      try clear c4b0
      obtain ⟨kq, x13_2, rfl, HA, HJ2, ⟨mc2, rfl⟩⟩ := hcut
      cases kq with
      | zero => exact absurd HA.out (by simp [utf_lead.j0])
      | succ kj2 =>
        have H := HA.out
        clear HA
        simp only [utf_lead.j0] at H
        by_cases c5 : x13_2 = true
        · subst c5
          have H1 : (some (0, 128, 191)) = some (r1, r2, r3) := by rw [if_pos rfl] at H; exact H
          clear H
          have H := H1
          clear H1
          simp only [Option.some.injEq, Prod.mk.injEq] at H
          obtain ⟨rfl, rfl, rfl⟩ := H
          go_wp2
          go_ret3
          exact ⟨by first | rfl | (simp; done) | (simp [*]; done), by repeat (first | exact Drawn0.refl _ | apply Drawn0.step)⟩
        · replace c5 := Bool.eq_false_iff.mpr c5
          subst c5
          have H1 : (if a0 < 224 then (some (2, 128, 191)) else (if a0 = 224 then (some (3, 160, 191)) else (if a0 = 237 then (some (3, 128, 159)) else (if a0 = 240 then (some (4, 144, 191)) else (if a0 = 241 then (utf_lead.j1 kj2 128 191 3 a0 (a0 == 241)) else (if a0 = 242 then (utf_lead.j1 kj2 128 191 3 a0 (a0 == 242)) else (utf_lead.j1 kj2 128 191 3 a0 (a0 == 243)))))))) = some (r1, r2, r3) := by rw [if_neg (show ¬ (false = true) by decide)] at H; exact H
          clear H
          have H := H1
          clear H1
          by_cases c6 : a0 < 224
          · rw [if_pos c6] at H
            have c6b0 : decide (a0 < 224) = true := decide_eq_true c6
            clear c6
            simp only [Option.some.injEq, Prod.mk.injEq] at H
            obtain ⟨rfl, rfl, rfl⟩ := H
            go_wp2
            go_ret3
            exact ⟨by first | rfl | (simp; done) | (simp [*]; done), by repeat (first | exact Drawn0.refl _ | apply Drawn0.step)⟩
          · rw [if_neg c6] at H
            have c6b0 : decide (a0 < 224) = false := decide_eq_false c6
            clear c6
            by_cases c7 : a0 = 224
            · rw [if_pos c7] at H
              have c7b0 : (a0 == 224) = true := beq_iff_eq.mpr c7
              have c7b1 : (a0 != 224) = false := bne_eq_false_iff_eq.mpr c7
              clear c7
              simp only [Option.some.injEq, Prod.mk.injEq] at H
              obtain ⟨rfl, rfl, rfl⟩ := H
              go_wp2
              go_ret3
              exact ⟨by first | rfl | (simp; done) | (simp [*]; done), by repeat (first | exact Drawn0.refl _ | apply Drawn0.step)⟩
            · rw [if_neg c7] at H
              have c7b0 : (a0 == 224) = false := beq_eq_false_iff_ne.mpr c7
              have c7b1 : (a0 != 224) = true := bne_iff_ne.mpr c7
              by_cases c8 : a0 = 237
              · rw [if_pos c8] at H
                have c8b0 : (a0 == 237) = true := beq_iff_eq.mpr c8
                have c8b1 : (a0 != 237) = false := bne_eq_false_iff_eq.mpr c8
                clear c8
                simp only [Option.some.injEq, Prod.mk.injEq] at H
                obtain ⟨rfl, rfl, rfl⟩ := H
                go_wp2
                go_ret3
                exact ⟨by first | rfl | (simp; done) | (simp [*]; done), by repeat (first | exact Drawn0.refl _ | apply Drawn0.step)⟩
              · rw [if_neg c8] at H
                have c8b0 : (a0 == 237) = false := beq_eq_false_iff_ne.mpr c8
                have c8b1 : (a0 != 237) = true := bne_iff_ne.mpr c8
                by_cases c9 : a0 = 240
                · rw [if_pos c9] at H
                  have c9b0 : (a0 == 240) = true := beq_iff_eq.mpr c9
                  have c9b1 : (a0 != 240) = false := bne_eq_false_iff_eq.mpr c9
                  clear c9
                  simp only [Option.some.injEq, Prod.mk.injEq] at H
                  obtain ⟨rfl, rfl, rfl⟩ := H
                  go_wp2
                  go_ret3
                  exact ⟨by first | rfl | (simp; done) | (simp [*]; done), by repeat (first | exact Drawn0.refl _ | apply Drawn0.step)⟩
                · rw [if_neg c9] at H
                  have c9b0 : (a0 == 240) = false := beq_eq_false_iff_ne.mpr c9
                  have c9b1 : (a0 != 240) = true := bne_iff_ne.mpr c9
                  have HC10 := Aside0.mk H
                  clear H
                  go_upto_if 34 with (fail)
                  go_cut [34] (fun v34 wc => ∃ (kq : Nat) (x34_9 : Bool), v34 = .bool x34_9 ∧ Aside0 (utf_lead.j1 kq 128 191 3 a0 x34_9 = some (r1, r2, r3)) ∧ Aside0 (kq ≤ kj2) ∧ Drawn0 w wc)
                  case first =>
                    have H := HC10.out
                    clear HC10
                    by_cases c11 : a0 = 241
                    · rw [if_pos c11] at H
                      have c11b0 : (a0 == 241) = true := beq_iff_eq.mpr c11
                      have c11b1 : (a0 != 241) = false := bne_eq_false_iff_eq.mpr c11
                      clear c11
                      (first | rw [c11b0] | (simp only [i64_w, i32_w]; rw [c11b0]) | skip)
                      have H' := Aside0.mk H
                      clear H
                      go_wp2
                      go_meet
                      case rel => exact ⟨_, ((a0 == 241)), (by first | rfl | (simp; done) | (simp [*]; done)), H', ⟨by have := HJ2.out; first | omega | exact Nat.le_refl _⟩, by repeat (first | exact Drawn0.refl _ | apply Drawn0.step)⟩
                    · rw [if_neg c11] at H
                      have c11b0 : (a0 == 241) = false := beq_eq_false_iff_ne.mpr c11
                      have c11b1 : (a0 != 241) = true := bne_iff_ne.mpr c11
                      (first | rw [c11b0] | (simp only [i64_w, i32_w]; rw [c11b0]) | skip)
                      by_cases c12 : a0 = 242
                      · rw [if_pos c12] at H
                        have c12b0 : (a0 == 242) = true := beq_iff_eq.mpr c12
                        have c12b1 : (a0 != 242) = false := bne_eq_false_iff_eq.mpr c12
                        clear c12
                        have H' := Aside0.mk H
                        clear H
                        go_wp2
                        go_meet
                        case rel => exact ⟨_, ((a0 == 242)), (by first | rfl | (simp; done) | (simp [*]; done)), H', ⟨by have := HJ2.out; first | omega | exact Nat.le_refl _⟩, by repeat (first | exact Drawn0.refl _ | apply Drawn0.step)⟩
                      · rw [if_neg c12] at H
                        have c12b0 : (a0 == 242) = false := beq_eq_false_iff_ne.mpr c12
                        have c12b1 : (a0 != 242) = true := bne_iff_ne.mpr c12
                        have H' := Aside0.mk H
                        clear H
                        go_wp2
                        go_meet
                        case rel => exact ⟨_, ((a0 == 243)), (by first | rfl | (simp; done) | (simp [*]; done)), H', ⟨by have := HJ2.out; first | omega | exact Nat.le_refl _⟩, by repeat (first | exact Drawn0.refl _ | apply Drawn0.step)⟩
                  case rest =>
                    clear HC10
                    try clear c1
                    try clear c2
                    try clear c2b0
                    try clear p2
                    try clear c4
                    try clear c4b0
                    try clear c5
                    try clear c6
                    try clear c6b0
                    try clear c7
                    try clear c7b0
                    try clear c7b1
                    try clear c8
                    try clear c8b0
                    try clear c8b1
                    try clear c9
                    try clear c9b0
                    try clear c9b1
                    try clear c11
                    try clear c11b0
                    try clear c11b1
                    try clear c12
                    try clear c12b0
                    try clear c12b1
                    try clear p2
                    obtain ⟨kq, x34_9, rfl, HA, HJ9, ⟨mc9, rfl⟩⟩ := hcut
                    cases kq with
                    | zero => exact absurd HA.out (by simp [utf_lead.j1])
                    | succ kj9 =>
                      have H := HA.out
                      clear HA
                      simp only [utf_lead.j1] at H
                      by_cases c13 : x34_9 = true
                      · subst c13
                        have H1 : (some (4, 128, 191)) = some (r1, r2, r3) := by rw [if_pos rfl] at H; exact H
                        clear H
                        have H := H1
                        clear H1
                        simp only [Option.some.injEq, Prod.mk.injEq] at H
                        obtain ⟨rfl, rfl, rfl⟩ := H
                        go_wp2
                        go_ret3
                        exact ⟨by first | rfl | (simp; done) | (simp [*]; done), by repeat (first | exact Drawn0.refl _ | apply Drawn0.step)⟩
                      · replace c13 := Bool.eq_false_iff.mpr c13
                        subst c13
                        have H1 : (if a0 = 244 then (some (4, 128, 143)) else (some (3, 128, 191))) = some (r1, r2, r3) := by rw [if_neg (show ¬ (false = true) by decide)] at H; exact H
                        clear H
                        have H := H1
                        clear H1
                        by_cases c14 : a0 = 244
                        · rw [if_pos c14] at H
                          have c14b0 : (a0 == 244) = true := beq_iff_eq.mpr c14
                          have c14b1 : (a0 != 244) = false := bne_eq_false_iff_eq.mpr c14
                          clear c14
                          simp only [Option.some.injEq, Prod.mk.injEq] at H
                          obtain ⟨rfl, rfl, rfl⟩ := H
                          go_wp2
                          go_ret3
                          exact ⟨by first | rfl | (simp; done) | (simp [*]; done), by repeat (first | exact Drawn0.refl _ | apply Drawn0.step)⟩
                        · rw [if_neg c14] at H
                          have c14b0 : (a0 == 244) = false := beq_eq_false_iff_ne.mpr c14
                          have c14b1 : (a0 != 244) = true := bne_iff_ne.mpr c14
                          simp only [Option.some.injEq, Prod.mk.injEq] at H
                          obtain ⟨rfl, rfl, rfl⟩ := H
                          go_wp2
                          go_ret3
                          exact ⟨by first | rfl | (simp; done) | (simp [*]; done), by repeat (first | exact Drawn0.refl _ | apply Drawn0.step)⟩

/-! ### utf_parse: function 55 -/
def utf_parse.l0 : Nat → List Int → Int → Int → Int → Int → Int → Option (Int × Int × Bool)
  | 0, _, _, _, _, _, _ => none
  | k + 1, x0, x5, x6, x7, x8, x9 => if x9 < x5 then (if x9 = (x0.length : Int) then (some (0, 0, true)) else (if 0 ≤ x9 then (if x9 < (x0.length : Int) then (if (rd x0 x9) < x6 then (some (65533, x9, false)) else (if (rd x0 x9) > x7 then (some (65533, x9, false)) else (utf_parse.l0 k x0 x5 128 191 (Go.bits .or .i32 (wrap32 (x8 * 64)) (wrap32 (Go.bits .and .u8 (rd x0 x9) 63))) (wrap64 (x9 + 1))))) else (none)) else (none))) else (some (x8, x5, false))
def utf_parse.f (k : Nat) (l0 : List Int) : Option (Int × Int × Bool) := if 0 < (l0.length : Int) then ((utf_lead.f k (rd l0 0)).bind fun bt102 => (if bt102.1 < 2 then (if bt102.1 = 0 then (some (65533, 1, false)) else (some (wrap32 (rd l0 0), 1, false))) else (if 0 ≤ bt102.1 then (utf_parse.l0 k l0 bt102.1 bt102.2.1 bt102.2.2 (Go.bits .and .i32 (wrap32 (rd l0 0)) (shr .i32 127 bt102.1)) 1) else (none)))) else (none)
theorem utf_parse.mono_l : ∀ k, (∀ y0 y1 y2 y3 y4 y5, LeO (utf_parse.l0 k y0 y1 y2 y3 y4 y5) (utf_parse.l0 (k + 1) y0 y1 y2 y3 y4 y5))
  | 0 => fun _ _ _ _ _ _ r h => by simp [utf_parse.l0] at h
  | k + 1 => by
    have ih0 := utf_parse.mono_l k
    · intro y0 y1 y2 y3 y4 y5
      unfold utf_parse.l0
      repeat' first
      | (with_reducible exact ih0 _ _ _ _ _ _)
      | (with_reducible exact utf_lead.mono _ _)
      | (with_reducible exact LeO.refl _)
      | (with_reducible exact LeO.none _)
      | (with_reducible refine LeO.ite ?_ ?_)
      | (with_reducible refine LeO.bind ?_ (fun _ => ?_))
      | exact ih0 _ _ _ _ _ _
      | exact utf_lead.mono _ _
      | exact LeO.none _
      | refine LeO.ite ?_ ?_
      | refine LeO.bind ?_ (fun _ => ?_)
theorem utf_parse.mono : ∀ a0 k, LeO (utf_parse.f k a0) (utf_parse.f (k + 1) a0) := by
  intro a0 k
  have ih0 := utf_parse.mono_l k
  unfold utf_parse.f
  repeat' first
      | (with_reducible exact ih0 _ _ _ _ _ _)
      | (with_reducible exact utf_lead.mono _ _)
      | (with_reducible exact LeO.refl _)
      | (with_reducible exact LeO.none _)
      | (with_reducible refine LeO.ite ?_ ?_)
      | (with_reducible refine LeO.bind ?_ (fun _ => ?_))
      | exact ih0 _ _ _ _ _ _
      | exact utf_lead.mono _ _
      | exact LeO.none _
      | refine LeO.ite ?_ ?_
      | refine LeO.bind ?_ (fun _ => ?_)
set_option maxHeartbeats 8000000 in
set_option maxRecDepth 100000 in
theorem utf_parse.calls (k : Nat) (A0 : Option Addr) (c0 : Nat) (l0 : List Int) (r1 : Int) (r2 : Int) (r3 : Bool) (w : World) (hr0 : Kd.C (Kd.int .u8) w A0 l0.length l0) (hc0 : l0.length ≤ c0) (h : utf_parse.f k l0 = some (r1, r2, r3)) :
    Calls Try.prog 55 #[.slice A0 l0.length c0] w fun e w' => e = .returned (.tuple #[.int .i32 r1, .int .i64 r2, .bool r3]) ∧ Drawn0 w w' := by
  have HR0 := Aside0.mk hr0
  have HC0 := Aside0.mk hc0
  clear hr0 hc0
  have H : (if 0 < (l0.length : Int) then ((utf_lead.f k (rd l0 0)).bind fun bt102 => (if bt102.1 < 2 then (if bt102.1 = 0 then (some (65533, 1, false)) else (some (wrap32 (rd l0 0), 1, false))) else (if 0 ≤ bt102.1 then (utf_parse.l0 k l0 bt102.1 bt102.2.1 bt102.2.2 (Go.bits .and .i32 (wrap32 (rd l0 0)) (shr .i32 127 bt102.1)) 1) else (none)))) else (none)) = some (r1, r2, r3) := h
  clear h
  by_cases c2 : 0 < (l0.length : Int)
  · rw [if_pos c2] at H
    have c2b0 : decide (0 < (l0.length : Int)) = true := decide_eq_true c2
    have c2b1 : decide (0 < l0.length) = true := decide_eq_true (by omega)
    clear c2
    replace H := Option.bind_eq_some_iff.mp H
    obtain ⟨⟨t102, t103, t104⟩, A30, H⟩ := H
    replace H : (if t102 < 2 then (if t102 = 0 then (some (65533, 1, false)) else (some (wrap32 (rd l0 0), 1, false))) else (if 0 ≤ t102 then (utf_parse.l0 k l0 t102 t103 t104 (Go.bits .and .i32 (wrap32 (rd l0 0)) (shr .i32 127 t102)) 1) else (none))) = some (r1, r2, r3) := H
    have A3 := Aside0.mk A30
    clear A30
    by_cases c4 : t102 < 2
    · rw [if_pos c4] at H
      have c4b0 : decide (t102 < 2) = true := decide_eq_true c4
      clear c4
      by_cases c5 : t102 = 0
      · rw [if_pos c5] at H
        have c5b0 : (t102 == 0) = true := beq_iff_eq.mpr c5
        have c5b1 : (t102 != 0) = false := bne_eq_false_iff_eq.mpr c5
        clear c5
        simp only [Option.some.injEq, Prod.mk.injEq] at H
        obtain ⟨rfl, rfl, rfl⟩ := H
        have p101 : 0 ≤ (0 : Int) := (by omega)
        have q101 : 0 < (l0.length : Int) := of_decide_eq_true (by first | (with_reducible assumption) | assumption)
        obtain ⟨ad101, e101, hx101_0⟩ := Kd.at_int HR0.out 0 p101 q101
        cases e101
        have qi101 : (0 < l0.length) = True := eq_true (by omega)
        (try rw [show ((0 : Int)).toNat = 0 from rfl] at hx101_0)
        (try rw [Addr.add_zero'] at hx101_0)
        replace p101 := eq_true p101
        replace q101 := eq_true q101
        go_enter Try.func55, Try.ntmps55
        go_wp2_with (first | (go_at_call 66; (with_reducible refine (utf_lead.calls k (rd l0 0) t102 t103 t104 _ A3.out).mono ?_); rintro e w' ⟨rfl, ⟨nd, rfl⟩⟩; (try first | exact ⟨rfl, _, World.drewN_drewN _ _ _⟩ | exact ⟨rfl, _, Eq.trans (World.drewN_drewN _ _ _) (congrArg (World.drewN _) (Nat.add_assoc _ _ _))⟩)))
        repeat (go_quiet (first | (go_at_call 66; (with_reducible refine (utf_lead.calls k (rd l0 0) t102 t103 t104 _ A3.out).mono ?_); rintro e w' ⟨rfl, ⟨nd, rfl⟩⟩; (try first | exact ⟨rfl, _, World.drewN_drewN _ _ _⟩ | exact ⟨rfl, _, Eq.trans (World.drewN_drewN _ _ _) (congrArg (World.drewN _) (Nat.add_assoc _ _ _))⟩))); try go_wp2_with (first | (go_at_call 66; (with_reducible refine (utf_lead.calls k (rd l0 0) t102 t103 t104 _ A3.out).mono ?_); rintro e w' ⟨rfl, ⟨nd, rfl⟩⟩; (try first | exact ⟨rfl, _, World.drewN_drewN _ _ _⟩ | exact ⟨rfl, _, Eq.trans (World.drewN_drewN _ _ _) (congrArg (World.drewN _) (Nat.add_assoc _ _ _))⟩))))
        go_ret3
        exact ⟨by first | rfl | (simp; done) | (simp [*]; done), by repeat (first | exact Drawn0.refl _ | apply Drawn0.step)⟩
      · rw [if_neg c5] at H
        have c5b0 : (t102 == 0) = false := beq_eq_false_iff_ne.mpr c5
        have c5b1 : (t102 != 0) = true := bne_iff_ne.mpr c5
        simp only [Option.some.injEq, Prod.mk.injEq] at H
        obtain ⟨rfl, rfl, rfl⟩ := H
        have p101 : 0 ≤ (0 : Int) := (by omega)
        have q101 : 0 < (l0.length : Int) := of_decide_eq_true (by first | (with_reducible assumption) | assumption)
        obtain ⟨ad101, e101, hx101_0⟩ := Kd.at_int HR0.out 0 p101 q101
        cases e101
        have qi101 : (0 < l0.length) = True := eq_true (by omega)
        (try rw [show ((0 : Int)).toNat = 0 from rfl] at hx101_0)
        (try rw [Addr.add_zero'] at hx101_0)
        replace p101 := eq_true p101
        replace q101 := eq_true q101
        go_enter Try.func55, Try.ntmps55
        go_wp2_with (first | (go_at_call 66; (with_reducible refine (utf_lead.calls k (rd l0 0) t102 t103 t104 _ A3.out).mono ?_); rintro e w' ⟨rfl, ⟨nd, rfl⟩⟩; (try first | exact ⟨rfl, _, World.drewN_drewN _ _ _⟩ | exact ⟨rfl, _, Eq.trans (World.drewN_drewN _ _ _) (congrArg (World.drewN _) (Nat.add_assoc _ _ _))⟩); have p105 : 0 ≤ (0 : Int) := (by omega); have q105 : 0 < (l0.length : Int) := of_decide_eq_true (by first | (with_reducible assumption) | assumption); obtain ⟨ad105, e105, hx105_0⟩ := Kd.at_int HR0.out 0 p105 q105; obtain rfl : ad101 = ad105 := (by injection e105); have qi105 : (0 < l0.length) = True := eq_true (by omega); (try rw [show ((0 : Int)).toNat = 0 from rfl] at hx105_0); (try rw [Addr.add_zero'] at hx105_0); replace p105 := eq_true p105; replace q105 := eq_true q105))
        repeat (go_quiet (first | (go_at_call 66; (with_reducible refine (utf_lead.calls k (rd l0 0) t102 t103 t104 _ A3.out).mono ?_); rintro e w' ⟨rfl, ⟨nd, rfl⟩⟩; (try first | exact ⟨rfl, _, World.drewN_drewN _ _ _⟩ | exact ⟨rfl, _, Eq.trans (World.drewN_drewN _ _ _) (congrArg (World.drewN _) (Nat.add_assoc _ _ _))⟩); have p105 : 0 ≤ (0 : Int) := (by omega); have q105 : 0 < (l0.length : Int) := of_decide_eq_true (by first | (with_reducible assumption) | assumption); obtain ⟨ad105, e105, hx105_0⟩ := Kd.at_int HR0.out 0 p105 q105; obtain rfl : ad101 = ad105 := (by injection e105); have qi105 : (0 < l0.length) = True := eq_true (by omega); (try rw [show ((0 : Int)).toNat = 0 from rfl] at hx105_0); (try rw [Addr.add_zero'] at hx105_0); replace p105 := eq_true p105; replace q105 := eq_true q105)); try go_wp2_with (first | (go_at_call 66; (with_reducible refine (utf_lead.calls k (rd l0 0) t102 t103 t104 _ A3.out).mono ?_); rintro e w' ⟨rfl, ⟨nd, rfl⟩⟩; (try first | exact ⟨rfl, _, World.drewN_drewN _ _ _⟩ | exact ⟨rfl, _, Eq.trans (World.drewN_drewN _ _ _) (congrArg (World.drewN _) (Nat.add_assoc _ _ _))⟩); have p105 : 0 ≤ (0 : Int) := (by omega); have q105 : 0 < (l0.length : Int) := of_decide_eq_true (by first | (with_reducible assumption) | assumption); obtain ⟨ad105, e105, hx105_0⟩ := Kd.at_int HR0.out 0 p105 q105; obtain rfl : ad101 = ad105 := (by injection e105); have qi105 : (0 < l0.length) = True := eq_true (by omega); (try rw [show ((0 : Int)).toNat = 0 from rfl] at hx105_0); (try rw [Addr.add_zero'] at hx105_0); replace p105 := eq_true p105; replace q105 := eq_true q105)))
        go_ret3
        exact ⟨by first | rfl | (simp; done) | (simp [*]; done), by repeat (first | exact Drawn0.refl _ | apply Drawn0.step)⟩
    · rw [if_neg c4] at H
      have c4b0 : decide (t102 < 2) = false := decide_eq_false c4
      clear c4
      by_cases c6 : 0 ≤ t102
      · rw [if_pos c6] at H
        have c6b0 := eq_true c6
        have c6b1 : decide (0 ≤ t102) = true := decide_eq_true c6
        clear c6
        obtain ⟨ji7, hji7⟩ : ∃ j_ : Int, (shr .i32 127 t102) = j_ := ⟨_, rfl⟩
        replace H : (utf_parse.l0 k l0 t102 t103 t104 (Go.bits .and .i32 (wrap32 (rd l0 0)) (ji7)) 1) = some (r1, r2, r3) := by first | (rw [hji7] at H; exact H) | (simp only [hji7] at H ⊢; exact H)
        (try rw [hji7] at A3)
        have hji7_ : (127 / 2 ^ min t102.toNat 32) = ji7 := hji7
        have hji7z : t102 ≤ 32 → (127 / 2 ^ t102.toNat) = ji7 := shr_small hji7
        have H' := Aside0.mk H
        clear H
        have p101 : 0 ≤ (0 : Int) := (by omega)
        have q101 : 0 < (l0.length : Int) := of_decide_eq_true (by first | (with_reducible assumption) | assumption)
        obtain ⟨ad101, e101, hx101_0⟩ := Kd.at_int HR0.out 0 p101 q101
        cases e101
        have qi101 : (0 < l0.length) = True := eq_true (by omega)
        (try rw [show ((0 : Int)).toNat = 0 from rfl] at hx101_0)
        (try rw [Addr.add_zero'] at hx101_0)
        replace p101 := eq_true p101
        replace q101 := eq_true q101
        go_enter Try.func55, Try.ntmps55
        go_wp2_with (first | (go_at_call 66; (with_reducible refine (utf_lead.calls k (rd l0 0) t102 t103 t104 _ A3.out).mono ?_); rintro e w' ⟨rfl, ⟨nd, rfl⟩⟩; (try first | exact ⟨rfl, _, World.drewN_drewN _ _ _⟩ | exact ⟨rfl, _, Eq.trans (World.drewN_drewN _ _ _) (congrArg (World.drewN _) (Nat.add_assoc _ _ _))⟩); have p106 : 0 ≤ (0 : Int) := (by omega); have q106 : 0 < (l0.length : Int) := of_decide_eq_true (by first | (with_reducible assumption) | assumption); obtain ⟨ad106, e106, hx106_0⟩ := Kd.at_int HR0.out 0 p106 q106; obtain rfl : ad101 = ad106 := (by injection e106); have qi106 : (0 < l0.length) = True := eq_true (by omega); (try rw [show ((0 : Int)).toNat = 0 from rfl] at hx106_0); (try rw [Addr.add_zero'] at hx106_0); replace p106 := eq_true p106; replace q106 := eq_true q106))
        repeat (go_quiet (first | (go_at_call 66; (with_reducible refine (utf_lead.calls k (rd l0 0) t102 t103 t104 _ A3.out).mono ?_); rintro e w' ⟨rfl, ⟨nd, rfl⟩⟩; (try first | exact ⟨rfl, _, World.drewN_drewN _ _ _⟩ | exact ⟨rfl, _, Eq.trans (World.drewN_drewN _ _ _) (congrArg (World.drewN _) (Nat.add_assoc _ _ _))⟩); have p106 : 0 ≤ (0 : Int) := (by omega); have q106 : 0 < (l0.length : Int) := of_decide_eq_true (by first | (with_reducible assumption) | assumption); obtain ⟨ad106, e106, hx106_0⟩ := Kd.at_int HR0.out 0 p106 q106; obtain rfl : ad101 = ad106 := (by injection e106); have qi106 : (0 < l0.length) = True := eq_true (by omega); (try rw [show ((0 : Int)).toNat = 0 from rfl] at hx106_0); (try rw [Addr.add_zero'] at hx106_0); replace p106 := eq_true p106; replace q106 := eq_true q106)); try go_wp2_with (first | (go_at_call 66; (with_reducible refine (utf_lead.calls k (rd l0 0) t102 t103 t104 _ A3.out).mono ?_); rintro e w' ⟨rfl, ⟨nd, rfl⟩⟩; (try first | exact ⟨rfl, _, World.drewN_drewN _ _ _⟩ | exact ⟨rfl, _, Eq.trans (World.drewN_drewN _ _ _) (congrArg (World.drewN _) (Nat.add_assoc _ _ _))⟩); have p106 : 0 ≤ (0 : Int) := (by omega); have q106 : 0 < (l0.length : Int) := of_decide_eq_true (by first | (with_reducible assumption) | assumption); obtain ⟨ad106, e106, hx106_0⟩ := Kd.at_int HR0.out 0 p106 q106; obtain rfl : ad101 = ad106 := (by injection e106); have qi106 : (0 < l0.length) = True := eq_true (by omega); (try rw [show ((0 : Int)).toNat = 0 from rfl] at hx106_0); (try rw [Addr.add_zero'] at hx106_0); replace p106 := eq_true p106; replace q106 := eq_true q106)))
        go_loopg [6, 7, 8, 9] k (fun kq v6 v7 v8 v9 w' => ∃ (x6_1 : Int) (x7_1 : Int) (x8_1 : Int) (x9_1 : Int), v6 = .int .u8 x6_1 ∧ v7 = .int .u8 x7_1 ∧ v8 = .int .i32 x8_1 ∧ v9 = .int .i64 x9_1 ∧ Aside0 (utf_parse.l0 kq l0 t102 x6_1 x7_1 x8_1 x9_1 = some (r1, r2, r3)) ∧ Aside0 (kq ≤ k) ∧ Drawn0 w w')
        case atStart => exact ⟨(t103), (t104), (Go.bits .and .i32 (wrap32 (rd l0 0)) (ji7)), (1), (by first | rfl | (simp; done) | (simp [*]; done)), (by first | rfl | (simp; done) | (simp [*]; done)), (by first | rfl | (simp; done) | (simp only [← hji7] <;> (first | rfl | simp)) | (simp [*]; done)), (by first | rfl | (simp; done) | (simp [*]; done)), H', ⟨Nat.le_refl _⟩, by repeat (first | exact Drawn0.refl _ | apply Drawn0.step)⟩
        case round =>
          clear H'
          try clear p1
          try clear q1
          try clear hx1
          try clear qi1
          try clear c2
          try clear c2b0
          try clear c2b1
          try clear p2
          try clear p3
          try clear c4
          try clear c4b0
          try clear c5
          try clear c5b0
          try clear c5b1
          try clear c6
          try clear c6b0
          try clear c6b1
          try clear hx101_0
          try clear hx105_0
          try clear hx106_0
          try clear p101
          try clear p105
          try clear p106
          try clear q101
          try clear q105
          try clear q106
          obtain ⟨x6_1, x7_1, x8_1, x9_1, rfl, rfl, rfl, rfl, HA, HK1, ⟨m1, rfl⟩⟩ := hrel
          cases gk with
          | zero => exact absurd HA.out (by simp [utf_parse.l0])
          | succ k1 =>
            have H := HA.out
            clear HA
            simp only [utf_parse.l0] at H
            by_cases c8 : x9_1 < t102
            · rw [if_pos c8] at H
              have c8b0 : decide (x9_1 < t102) = true := decide_eq_true c8
              clear c8
              by_cases c9 : x9_1 = (l0.length : Int)
              · rw [if_pos c9] at H
                have c9b0 : (x9_1 == (l0.length : Int)) = true := beq_iff_eq.mpr c9
                have c9b1 : (x9_1 != (l0.length : Int)) = false := bne_eq_false_iff_eq.mpr c9
                clear c9
                simp only [Option.some.injEq, Prod.mk.injEq] at H
                obtain ⟨rfl, rfl, rfl⟩ := H
                go_wp2
                repeat (go_quiet (fail); try go_wp2)
                go_ret3
                exact ⟨by first | rfl | (simp; done) | (simp only [← hji7] <;> (first | rfl | simp)) | (simp [*]; done), by repeat (first | exact Drawn0.refl _ | apply Drawn0.step)⟩
              · rw [if_neg c9] at H
                have c9b0 : (x9_1 == (l0.length : Int)) = false := beq_eq_false_iff_ne.mpr c9
                have c9b1 : (x9_1 != (l0.length : Int)) = true := bne_iff_ne.mpr c9
                by_cases c10 : 0 ≤ x9_1
                · rw [if_pos c10] at H
                  have c10b0 : decide (0 ≤ x9_1) = true := decide_eq_true c10
                  clear c10
                  by_cases c11 : x9_1 < (l0.length : Int)
                  · rw [if_pos c11] at H
                    have c11b0 : decide (x9_1 < (l0.length : Int)) = true := decide_eq_true c11
                    clear c11
                    by_cases c12 : (rd l0 x9_1) < x6_1
                    · rw [if_pos c12] at H
                      have c12b0 : decide ((rd l0 x9_1) < x6_1) = true := decide_eq_true c12
                      clear c12
                      simp only [Option.some.injEq, Prod.mk.injEq] at H
                      obtain ⟨rfl, rfl, rfl⟩ := H
                      have p107 : 0 ≤ (x9_1 : Int) := of_decide_eq_true (by first | (with_reducible assumption) | assumption)
                      have q107 : x9_1 < (l0.length : Int) := of_decide_eq_true (by first | (with_reducible assumption) | assumption)
                      obtain ⟨ad107, e107, hx107_0⟩ := Kd.at_int HR0.out x9_1 p107 q107
                      obtain rfl : ad101 = ad107 := (by injection e107)
                      replace p107 := eq_true p107
                      replace q107 := eq_true q107
                      go_wp2
                      repeat (go_quiet (fail); try go_wp2)
                      go_ret3
                      exact ⟨by first | rfl | (simp; done) | (simp only [← hji7] <;> (first | rfl | simp)) | (simp [*]; done), by repeat (first | exact Drawn0.refl _ | apply Drawn0.step)⟩
                    · rw [if_neg c12] at H
                      have c12b0 : decide ((rd l0 x9_1) < x6_1) = false := decide_eq_false c12
                      clear c12
                      by_cases c13 : (rd l0 x9_1) > x7_1
                      · rw [if_pos c13] at H
                        have c13b0 : decide (x7_1 < (rd l0 x9_1)) = true := decide_eq_true c13
                        clear c13
                        simp only [Option.some.injEq, Prod.mk.injEq] at H
                        obtain ⟨rfl, rfl, rfl⟩ := H
                        have p107 : 0 ≤ (x9_1 : Int) := of_decide_eq_true (by first | (with_reducible assumption) | assumption)
                        have q107 : x9_1 < (l0.length : Int) := of_decide_eq_true (by first | (with_reducible assumption) | assumption)
                        obtain ⟨ad107, e107, hx107_0⟩ := Kd.at_int HR0.out x9_1 p107 q107
                        obtain rfl : ad101 = ad107 := (by injection e107)
                        replace p107 := eq_true p107
                        replace q107 := eq_true q107
                        have p108 : 0 ≤ (x9_1 : Int) := of_decide_eq_true (by first | (with_reducible assumption) | assumption)
                        have q108 : x9_1 < (l0.length : Int) := of_decide_eq_true (by first | (with_reducible assumption) | assumption)
                        obtain ⟨ad108, e108, hx108_0⟩ := Kd.at_int HR0.out x9_1 p108 q108
                        obtain rfl : ad101 = ad108 := (by injection e108)
                        replace p108 := eq_true p108
                        replace q108 := eq_true q108
                        go_wp2
                        repeat (go_quiet (fail); try go_wp2)
                        go_ret3
                        exact ⟨by first | rfl | (simp; done) | (simp only [← hji7] <;> (first | rfl | simp)) | (simp [*]; done), by repeat (first | exact Drawn0.refl _ | apply Drawn0.step)⟩
                      · rw [if_neg c13] at H
                        have c13b0 : decide (x7_1 < (rd l0 x9_1)) = false := decide_eq_false c13
                        clear c13
                        have H' := Aside0.mk H
                        clear H
                        have p107 : 0 ≤ (x9_1 : Int) := of_decide_eq_true (by first | (with_reducible assumption) | assumption)
                        have q107 : x9_1 < (l0.length : Int) := of_decide_eq_true (by first | (with_reducible assumption) | assumption)
                        obtain ⟨ad107, e107, hx107_0⟩ := Kd.at_int HR0.out x9_1 p107 q107
                        obtain rfl : ad101 = ad107 := (by injection e107)
                        replace p107 := eq_true p107
                        replace q107 := eq_true q107
                        have p108 : 0 ≤ (x9_1 : Int) := of_decide_eq_true (by first | (with_reducible assumption) | assumption)
                        have q108 : x9_1 < (l0.length : Int) := of_decide_eq_true (by first | (with_reducible assumption) | assumption)
                        obtain ⟨ad108, e108, hx108_0⟩ := Kd.at_int HR0.out x9_1 p108 q108
                        obtain rfl : ad101 = ad108 := (by injection e108)
                        replace p108 := eq_true p108
                        replace q108 := eq_true q108
                        have p109 : 0 ≤ (x9_1 : Int) := of_decide_eq_true (by first | (with_reducible assumption) | assumption)
                        have q109 : x9_1 < (l0.length : Int) := of_decide_eq_true (by first | (with_reducible assumption) | assumption)
                        obtain ⟨ad109, e109, hx109_0⟩ := Kd.at_int HR0.out x9_1 p109 q109
                        obtain rfl : ad101 = ad109 := (by injection e109)
                        replace p109 := eq_true p109
                        replace q109 := eq_true q109
                        go_wp2
                        repeat (go_quiet (fail); try go_wp2)
                        go_roundg k1
                        case measure => have := HK1.out; omega
                        case rel => exact ⟨(128), (191), (Go.bits .or .i32 (wrap32 (x8_1 * 64)) (wrap32 (Go.bits .and .u8 (rd l0 x9_1) 63))), (wrap64 (x9_1 + 1)), (by first | rfl | (simp; done) | (simp [*]; done)), (by first | rfl | (simp; done) | (simp [*]; done)), (by first | rfl | (simp; done) | (simp [*]; done)), (by first | rfl | (simp; done) | (simp [*]; done)), H', ⟨by have := HK1.out; omega⟩, by repeat (first | exact Drawn0.refl _ | apply Drawn0.step)⟩
                  · rw [if_neg c11] at H
                    exact absurd H (by simp)
                · rw [if_neg c10] at H
                  exact absurd H (by simp)
            · rw [if_neg c8] at H
              have c8b0 : decide (x9_1 < t102) = false := decide_eq_false c8
              clear c8
              simp only [Option.some.injEq, Prod.mk.injEq] at H
              obtain ⟨rfl, rfl, rfl⟩ := H
              go_wp2
              repeat (go_quiet (fail); try go_wp2)
              go_ret3
              exact ⟨by first | rfl | (simp; done) | (simp only [← hji7] <;> (first | rfl | simp)) | (simp [*]; done), by repeat (first | exact Drawn0.refl _ | apply Drawn0.step)⟩
      · rw [if_neg c6] at H
        exact absurd H (by simp)
  · rw [if_neg c2] at H
    exact absurd H (by simp)

/-! ### utf_First: function 14 -/
def utf_First.f (k : Nat) (l0 : List Int) : Option (Int × Int) := if (l0.length : Int) = 0 then (some (0, 0)) else ((utf_parse.f k l0).bind fun bt110 => (some (bt110.1, bt110.2.1)))
theorem utf_First.mono : ∀ a0 k, LeO (utf_First.f k a0) (utf_First.f (k + 1) a0) := by
  intro a0 k
  unfold utf_First.f
  repeat' first
      | (with_reducible exact utf_parse.mono _ _)
      | (with_reducible exact LeO.refl _)
      | (with_reducible exact LeO.none _)
      | (with_reducible refine LeO.ite ?_ ?_)
      | (with_reducible refine LeO.bind ?_ (fun _ => ?_))
      | exact utf_parse.mono _ _
      | exact LeO.none _
      | refine LeO.ite ?_ ?_
      | refine LeO.bind ?_ (fun _ => ?_)
set_option maxHeartbeats 8000000 in
set_option maxRecDepth 100000 in
theorem utf_First.calls (k : Nat) (A0 : Option Addr) (c0 : Nat) (l0 : List Int) (r1 : Int) (r2 : Int) (w : World) (hr0 : Kd.C (Kd.int .u8) w A0 l0.length l0) (hc0 : l0.length ≤ c0) (h : utf_First.f k l0 = some (r1, r2)) :
    Calls Try.prog 14 #[.slice A0 l0.length c0] w fun e w' => e = .returned (.tuple #[.int .i32 r1, .int .i64 r2]) ∧ Drawn0 w w' := by
  have HR0 := Aside0.mk hr0
  have HC0 := Aside0.mk hc0
  clear hr0 hc0
  have H : (if (l0.length : Int) = 0 then (some (0, 0)) else ((utf_parse.f k l0).bind fun bt110 => (some (bt110.1, bt110.2.1)))) = some (r1, r2) := h
  clear h
  by_cases c2 : (l0.length : Int) = 0
  · rw [if_pos c2] at H
    have c2b0 : ((l0.length : Int) == 0) = true := beq_iff_eq.mpr c2
    have c2b1 : ((l0.length : Int) != 0) = false := bne_eq_false_iff_eq.mpr c2
    clear c2
    simp only [Option.some.injEq, Prod.mk.injEq] at H
    obtain ⟨rfl, rfl⟩ := H
    go_enter Try.func14, Try.ntmps14
    go_wp2
    go_ret2
    exact ⟨by first | rfl | (simp; done) | (simp [*]; done), by repeat (first | exact Drawn0.refl _ | apply Drawn0.step)⟩
  · rw [if_neg c2] at H
    have c2b0 : ((l0.length : Int) == 0) = false := beq_eq_false_iff_ne.mpr c2
    have c2b1 : ((l0.length : Int) != 0) = true := bne_iff_ne.mpr c2
    have c2b2 : ¬ (l0 = []) := fun h_ => c2 (by rw [h_]; rfl)
    replace H := Option.bind_eq_some_iff.mp H
    obtain ⟨⟨t110, t111, t112⟩, A30, H⟩ := H
    replace H : (some (t110, t111)) = some (r1, r2) := H
    have A3 := Aside0.mk A30
    clear A30
    simp only [Option.some.injEq, Prod.mk.injEq] at H
    obtain ⟨rfl, rfl⟩ := H
    go_enter Try.func14, Try.ntmps14
    go_wp2_with (first | ((with_reducible refine gate_callee (f := 55) rfl ?_); refine goesL_ (some 12) rfl rfl Try.func55 (by kernel_rfl) rfl #[.slice A0 l0.length c0] rfl (by (try simp only [List.map_toArray, List.map_cons, List.map_nil]); first | done | rfl | (simp only [List.length_drop, List.length_take]; rfl)) ?_; (with_reducible refine (utf_parse.calls k _ _ l0 t110 t111 t112 _ ?side1 ?side2 A3.out).mono ?_); (case side1 => repeat (first | exact HR0.out | (with_reducible refine Kd.C_alloc ?_ _) | (with_reducible refine Kd.C_drewN ?_ _) | (with_reducible refine Kd.C_drew ?_))); (case side2 => exact HC0.out); rintro e w' ⟨rfl, ⟨nd, rfl⟩⟩; refine ⟨_, rfl, ?_⟩))
    go_ret2
    exact ⟨by first | rfl | (simp; done) | (simp [*]; done), by repeat (first | exact Drawn0.refl _ | apply Drawn0.step)⟩

theorem w64 {x : Int} (h0 : -9223372036854775808 ≤ x) (h1 : x < 9223372036854775808) : wrap64 x = x := by unfold wrap64; omega
theorem kp {d k : Nat} (h : d < k) : ∃ m, k = m + 1 := ⟨k - 1, by omega⟩
theorem drop_rd {xs : List Int} {i : Nat} (h : i < xs.length) : xs.drop i = rd xs (i : Int) :: xs.drop (i + 1) := by
  rw [List.drop_eq_getElem_cons h]
  simp [rd, List.getD_eq_getElem?_getD, h]
theorem rd_in {xs : List Int} {i : Nat} (h : i < xs.length) : rd xs (i : Int) ∈ xs := by
  simp [rd, List.getD_eq_getElem?_getD, h]
theorem cast1 (i : Nat) : ((i : Int) + 1) = ((i + 1 : Nat) : Int) := by omega
theorem td {x n : Int} (h : 0 ≤ x) : Int.tdiv x n = x / n := Int.tdiv_eq_ediv_of_nonneg h
theorem tm {x n : Int} (h : 0 ≤ x) : Int.tmod x n = x % n := Int.tmod_eq_emod_of_nonneg h
theorem p_lead (a : Int) (h : 194 ≤ a ∧ a ≤ 244) (k : Nat) (hk : 3 ≤ k) : ∃ n lo hi, utf_lead.f k a = some (n, lo, hi) ∧ n = (if a < 224 then 2 else if a < 240 then 3 else 4) ∧ 128 ≤ lo ∧ hi ≤ 191 ∧ ∀ b, two a b = (decide (lo ≤ b) && decide (b ≤ hi)) := by
  obtain ⟨k, rfl⟩ : ∃ m, k = m + 2 := ⟨k - 2, by omega⟩
  unfold utf_lead.f
  rw [if_neg (by omega), if_neg (by omega), show decide (a > 244) = false by simp; omega, utf_lead.j0, if_neg (by simp)]
  by_cases h1 : a < 224
  · rw [if_pos h1]
    refine ⟨2, 128, 191, rfl, by rw [if_pos h1], by omega, by omega, fun b => ?_⟩
    unfold two cont; rw [if_neg (by omega), if_pos h1, Bool.eq_iff_iff]; simp
  · rw [if_neg h1]
    by_cases h2 : a = 224
    · rw [if_pos h2]
      refine ⟨3, 160, 191, rfl, by rw [if_neg h1, if_pos (by omega)], by omega, by omega, fun b => ?_⟩
      unfold two cont; rw [if_neg (by omega), if_neg h1, if_pos h2, Bool.eq_iff_iff]; simp
    · rw [if_neg h2]
      by_cases h3 : a = 237
      · rw [if_pos h3]
        refine ⟨3, 128, 159, rfl, by rw [if_neg h1, if_pos (by omega)], by omega, by omega, fun b => ?_⟩
        unfold two cont; rw [if_neg (by omega), if_neg h1, if_neg h2, if_pos h3, Bool.eq_iff_iff]; simp
      · rw [if_neg h3]
        by_cases h4 : a = 240
        · rw [if_pos h4]
          refine ⟨4, 144, 191, rfl, by rw [if_neg h1, if_neg (by omega)], by omega, by omega, fun b => ?_⟩
          unfold two cont; rw [if_neg (by omega), if_neg h1, if_neg h2, if_neg h3, if_neg (by omega), if_pos h4, Bool.eq_iff_iff]; simp
        · rw [if_neg h4]
          by_cases h5 : a < 240
          · refine ⟨3, 128, 191, ?_, by rw [if_neg h1, if_pos h5], by omega, by omega, fun b => ?_⟩
            · rw [if_neg (by omega), if_neg (by omega), utf_lead.j1, if_neg (by simp; omega), if_neg (by omega)]
            · unfold two cont; rw [if_neg (by omega), if_neg h1, if_neg h2, if_neg h3, if_pos h5, Bool.eq_iff_iff]; simp
          · by_cases h6 : a < 244
            · refine ⟨4, 128, 191, ?_, by rw [if_neg h1, if_neg h5], by omega, by omega, fun b => ?_⟩
              · have h7 : a = 241 ∨ a = 242 ∨ a = 243 := by omega
                rcases h7 with rfl | rfl | rfl
                · rw [if_pos rfl, utf_lead.j1, if_pos (by simp)]
                · rw [if_neg (by omega), if_pos rfl, utf_lead.j1, if_pos (by simp)]
                · rw [if_neg (by omega), if_neg (by omega), utf_lead.j1, if_pos (by simp)]
              · unfold two cont; rw [if_neg (by omega), if_neg h1, if_neg h2, if_neg h3, if_neg h5, if_neg h4, if_pos h6, Bool.eq_iff_iff]; simp
            · refine ⟨4, 128, 143, ?_, by rw [if_neg h1, if_neg h5], by omega, by omega, fun b => ?_⟩
              · rw [if_neg (by omega), if_neg (by omega), utf_lead.j1, if_neg (by simp; omega), if_pos (by omega)]
              · unfold two cont; rw [if_neg (by omega), if_neg h1, if_neg h2, if_neg h3, if_neg h5, if_neg h4, if_neg h6, if_pos (by omega), Bool.eq_iff_iff]; simp
theorem p_w64 {x : Int} (h0 : -9223372036854775808 ≤ x) (h1 : x < 9223372036854775808) : wrap64 x = x := by unfold wrap64; omega
/-- One round of the program's parse: at the end; out of the bounds; on. -/
theorem p_end (k : Nat) (l : List Int) (n lo hi r : Int) (i : Nat) (h : (i : Int) < n) (hi2 : i = l.length) : utf_parse.l0 (k + 1) l n lo hi r (i : Int) = some (0, 0, true) := by
  rw [utf_parse.l0, if_pos h, if_pos (by omega)]
theorem p_bad (k : Nat) (l : List Int) (n lo hi r : Int) (i : Nat) (h : (i : Int) < n) (hi2 : i < l.length) (hb : (decide (lo ≤ rd l i) && decide (rd l i ≤ hi)) = false) : utf_parse.l0 (k + 1) l n lo hi r (i : Int) = some (65533, (i : Int), false) := by
  rw [utf_parse.l0, if_pos h, if_neg (by omega), if_pos (by omega), if_pos (by omega)]
  by_cases h1 : rd l i < lo
  · rw [if_pos h1]
  · rw [if_neg h1]
    by_cases h2 : rd l i > hi
    · rw [if_pos h2]
    · simp at hb; omega
theorem p_on (k : Nat) (l : List Int) (n lo hi r : Int) (i : Nat) (h : (i : Int) < n) (hi2 : i < l.length) (hb : lo ≤ rd l i ∧ rd l i ≤ hi) (h8 : 128 ≤ rd l i ∧ rd l i ≤ 191) (hr : 0 ≤ r ∧ r ≤ 100000) (hn : n ≤ 4) : utf_parse.l0 (k + 1) l n lo hi r (i : Int) = utf_parse.l0 k l n 128 191 (r * 64 + (rd l i - 128)) ((i + 1 : Nat) : Int) := by
  rw [utf_parse.l0, if_pos h, if_neg (by omega), if_pos (by omega), if_pos (by omega), if_neg (by omega), if_neg (by omega), and63 (by omega), w32 (x := r * 64) (by omega) (by omega), w32 (x := rd l i % 64) (by omega) (by omega), or64 (by omega) (by omega), p_w64 (by omega) (by omega), show rd l (i : Int) % 64 = rd l (i : Int) - 128 by omega, show (i : Int) + 1 = ((i + 1 : Nat) : Int) by omega]
theorem p_fin (k : Nat) (l : List Int) (n lo hi r : Int) (i : Nat) (h : n = (i : Int)) : utf_parse.l0 (k + 1) l n lo hi r (i : Int) = some (r, n, false) := by
  rw [utf_parse.l0, if_neg (by omega)]
theorem p_parse (l : List Int) (h8 : In8u l) (hne : l ≠ []) (k : Nat) (hk : 10 ≤ k) : utf_parse.f k l = some (parseZ l) := by
  obtain ⟨k, rfl⟩ : ∃ m, k = m + 5 := ⟨k - 5, by omega⟩
  match l, hne with
  | a :: t, _ =>
    have ha := h8 a (by simp)
    have r0 : rd (a :: t) 0 = a := rfl
    unfold utf_parse.f
    rw [if_pos (by first | (simp; done) | (simp; omega)), r0]
    simp only [parseZ]
    by_cases h1 : a < 128
    · rw [if_pos h1, show utf_lead.f (k + 5) a = some (1, 128, 191) by unfold utf_lead.f; rw [if_pos h1]]
      simp only [Option.bind_some]
      rw [if_pos (by omega), if_neg (by omega), w32 (by omega) (by omega)]
    · rw [if_neg h1]
      by_cases h2 : a < 194 ∨ 244 < a
      · have e : utf_lead.f (k + 5) a = some (0, 128, 191) := by
          unfold utf_lead.f
          rw [if_neg h1]
          by_cases h3 : a < 194
          · rw [if_pos h3, utf_lead.j0, if_pos rfl]
          · rw [if_neg h3, show decide (a > 244) = true by simp; omega, utf_lead.j0, if_pos rfl]
        rw [if_pos h2, e]
        simp only [Option.bind_some]
        rw [if_pos (by omega), if_pos trivial]
      · rw [if_neg h2]
        obtain ⟨n, lo, hi, e, hn, hlo, hhi, htwo⟩ := p_lead a (by omega) (k + 5) (by omega)
        have hn2 : 2 ≤ n ∧ n ≤ 4 := by rw [hn]; split <;> (try split) <;> omega
        rw [e]
        simp only [Option.bind_some]
        rw [if_neg (by omega), if_pos (by omega), w32 (x := a) (by omega) (by omega)]
        -- the head's own bits
        obtain ⟨r, hr⟩ : ∃ r, Go.bits .and .i32 a (shr .i32 127 n) = r := ⟨_, rfl⟩
        have hrv : r = if a < 224 then a - 192 else if a < 240 then a - 224 else a - 240 := by
          rw [← hr, hn]
          by_cases h3 : a < 224
          · rw [if_pos h3, if_pos h3, show shr .i32 127 2 = 31 by decide, and31 ha]; omega
          · rw [if_neg h3, if_neg h3]
            by_cases h4 : a < 240
            · rw [if_pos h4, if_pos h4, show shr .i32 127 3 = 15 by decide, and15 ha]; omega
            · rw [if_neg h4, if_neg h4, show shr .i32 127 4 = 7 by decide, and7 ha]; omega
        have hrb : 0 ≤ r ∧ r ≤ 31 := by rw [hrv]; split <;> (try split) <;> omega
        rw [hr]
        match t with
        | [] => exact p_end _ [a] n lo hi r 1 (by omega) rfl
        | b :: t =>
          have hb := h8 b (by simp)
          have r1 : rd (a :: b :: t) ((1 : Nat) : Int) = b := rfl
          dsimp only
          by_cases hT : two a b = true
          · rw [hT, if_neg (by simp)]
            have hT' := htwo b
            rw [hT] at hT'
            simp at hT'
            rw [show ((1 : Int)) = ((1 : Nat) : Int) from rfl, p_on (k + 4) _ n lo hi r 1 (by omega) (by simp) (by rw [r1]; omega) (by rw [r1]; omega) (by omega) (by omega), r1]
            by_cases h3 : a < 224
            · rw [if_pos h3] at hn hrv
              rw [if_pos h3, p_fin (k + 3) _ n _ _ _ 2 (by omega), hn, hrv]
            · rw [if_neg h3] at hn hrv
              rw [if_neg h3]
              match t with
              | [] => exact p_end _ [a, b] n 128 191 _ 2 (by split at hn <;> omega) rfl
              | c :: t =>
                have hc := h8 c (by simp)
                have r2 : rd (a :: b :: c :: t) ((2 : Nat) : Int) = c := rfl
                dsimp only
                by_cases hC : cont c = true
                · rw [hC, if_neg (by simp)]
                  rw [cont_iff] at hC
                  rw [p_on (k + 3) _ n 128 191 _ 2 (by split at hn <;> omega) (by simp) (by rw [r2]; omega) (by rw [r2]; omega) (by omega) (by omega), r2]
                  by_cases h4 : a < 240
                  · rw [if_pos h4] at hn hrv
                    rw [if_pos h4, p_fin (k + 2) _ n _ _ _ 3 (by omega), hn, hrv]
                    congr 2; omega
                  · rw [if_neg h4] at hn hrv
                    rw [if_neg h4]
                    match t with
                    | [] => exact p_end _ [a, b, c] n 128 191 _ 3 (by omega) rfl
                    | d :: t =>
                      have hd := h8 d (by simp)
                      have r3 : rd (a :: b :: c :: d :: t) ((3 : Nat) : Int) = d := rfl
                      dsimp only
                      by_cases hD : cont d = true
                      · rw [hD, if_neg (by simp)]
                        rw [cont_iff] at hD
                        rw [p_on (k + 2) _ n 128 191 _ 3 (by omega) (by simp) (by rw [r3]; omega) (by rw [r3]; omega) (by omega) (by omega), r3, p_fin (k + 1) _ n _ _ _ 4 (by omega), hn, hrv]
                        congr 2; omega
                      · rw [Bool.eq_false_iff.2 hD, if_pos rfl]
                        rw [cont_iff] at hD
                        exact p_bad _ _ n 128 191 _ 3 (by omega) (by simp) (by rw [r3]; simp; omega)
                · rw [Bool.eq_false_iff.2 hC, if_pos rfl]
                  rw [cont_iff] at hC
                  exact p_bad _ _ n 128 191 _ 2 (by split at hn <;> omega) (by simp) (by rw [r2]; simp; omega)
          · rw [Bool.eq_false_iff.2 hT, if_pos rfl]
            have hT' := htwo b
            rw [Bool.eq_false_iff.2 hT] at hT'
            exact p_bad _ _ n lo hi r 1 (by omega) (by simp) (by rw [r1]; exact hT'.symm)
theorem uFirst_ok (l : List Int) (h8 : In8u l) (k : Nat) (hk : 10 ≤ k) : utf_First.f k l = some (if l = [] then (0, 0) else ((parseZ l).1, (parseZ l).2.1)) := by
  unfold utf_First.f
  by_cases h : l = []
  · rw [if_pos (by rw [h]; rfl), if_pos h]
  · rw [if_neg (by have := List.length_pos_iff.2 h; omega), if_neg h, p_parse l h8 h k hk]
    rfl
theorem all8K {l : List Int} : (l.all (fun x => decide (0 ≤ x ∧ x ≤ 255)) = true) ↔ In8u l := by
  rw [List.all_eq_true]
  exact ⟨fun h x hx => of_decide_eq_true (h x hx), fun h x hx => decide_eq_true (h x hx)⟩
theorem kFirst (A : Option Addr) (c : Nat) (l : List Int) (w : World) (hC : (Kd.int .u8).C w A l.length l) (hc : l.length ≤ c) (h8 : In8u l) (hl : l.length ≤ 1000) :
    Calls Try.prog 14 #[.slice A l.length c] w fun e w' => e = .returned (.tuple #[.int .i32 (firstK l).1, .int .i64 (firstK l).2]) ∧ Below w.heap.size w w' :=
  (utf_First.calls 10 A c l _ _ w hC hc (by rw [uFirst_ok l h8 10 (Nat.le_refl _)]; rfl)).mono (fun e w' ⟨a, b⟩ => ⟨a, b.below⟩)
/-! ### key_Split: function 43: of own contracts -/
def key_Split.f (l0 : List Int) : Option ((List (List Int))) := if l0.all (fun x => decide (0 ≤ x ∧ x ≤ 255)) = true ∧ l0.length ≤ 1000 then some (splitZ l0) else none
theorem key_Split.calls (A0 : Option Addr) (c0 : Nat) (l0 : List Int) (r : List (List Int)) (w : World) (hr0 : Kd.C (Kd.int .u8) w A0 l0.length l0) (hc0 : l0.length ≤ c0) (h : key_Split.f l0 = some r) :
    Calls Try.prog 43 #[.slice A0 l0.length c0] w fun e w' => ∃ v0_ : Value, e = .returned (v0_) ∧ Kd.S (Kd.slice 5 (Kd.int .u8)) 22 w' w.heap.size (fun _ => True) v0_ r ∧ Below w.heap.size w w' := by
  unfold key_Split.f at h
  by_cases hb : l0.all (fun x => decide (0 ≤ x ∧ x ≤ 255)) = true ∧ l0.length ≤ 1000
  · rw [if_pos hb] at h
    obtain rfl := Option.some.inj h
    exact Split_walk kFirst A0 c0 l0 w hr0 hc0 (all8K.1 hb.1) hb.2
  · rw [if_neg hb] at h; cases h

-- NOT PRINTED: function 64 (key_named)

/-! ### utf_Valid: function 20 -/
def utf_Valid.l0 : Nat → List Int → Option (Bool)
  | 0, _ => none
  | k + 1, x0 => if (x0.length : Int) > 0 then ((utf_parse.f k x0).bind fun bt116 => (if bt116.2.2 = true then (some false) else (if bt116.1 = 65533 then (if bt116.2.1 = 3 then (if 0 < (x0.length : Int) then (if (rd x0 0) = 239 then (if 1 < (x0.length : Int) then (if (rd x0 1) = 191 then (if 2 < (x0.length : Int) then (if (rd x0 2) = 189 then (if 0 ≤ bt116.2.1 then (if bt116.2.1 ≤ (x0.length : Int) then (utf_Valid.l0 k (x0.drop (bt116.2.1 : Int).toNat)) else (none)) else (none)) else (some false)) else (none)) else (some false)) else (none)) else (some false)) else (none)) else (some false)) else (if 0 ≤ bt116.2.1 then (if bt116.2.1 ≤ (x0.length : Int) then (utf_Valid.l0 k (x0.drop (bt116.2.1 : Int).toNat)) else (none)) else (none))))) else (some true)
def utf_Valid.f (k : Nat) (l0 : List Int) : Option (Bool) := utf_Valid.l0 k l0
theorem utf_Valid.mono_l : ∀ k, (∀ y0, LeO (utf_Valid.l0 k y0) (utf_Valid.l0 (k + 1) y0))
  | 0 => fun _ r h => by simp [utf_Valid.l0] at h
  | k + 1 => by
    have ih0 := utf_Valid.mono_l k
    · intro y0
      unfold utf_Valid.l0
      repeat' first
      | (with_reducible exact ih0 _)
      | (with_reducible exact utf_parse.mono _ _)
      | (with_reducible exact LeO.refl _)
      | (with_reducible exact LeO.none _)
      | (with_reducible refine LeO.ite ?_ ?_)
      | (with_reducible refine LeO.bind ?_ (fun _ => ?_))
      | exact ih0 _
      | exact utf_parse.mono _ _
      | exact LeO.none _
      | refine LeO.ite ?_ ?_
      | refine LeO.bind ?_ (fun _ => ?_)
theorem utf_Valid.mono : ∀ a0 k, LeO (utf_Valid.f k a0) (utf_Valid.f (k + 1) a0) := by
  intro a0 k
  have ih0 := utf_Valid.mono_l k
  unfold utf_Valid.f
  repeat' first
      | (with_reducible exact ih0 _)
      | (with_reducible exact utf_parse.mono _ _)
      | (with_reducible exact LeO.refl _)
      | (with_reducible exact LeO.none _)
      | (with_reducible refine LeO.ite ?_ ?_)
      | (with_reducible refine LeO.bind ?_ (fun _ => ?_))
      | exact ih0 _
      | exact utf_parse.mono _ _
      | exact LeO.none _
      | refine LeO.ite ?_ ?_
      | refine LeO.bind ?_ (fun _ => ?_)
set_option maxHeartbeats 8000000 in
set_option maxRecDepth 100000 in
theorem utf_Valid.calls (k : Nat) (P0_ : Nat → Prop) (A0 : Option Addr) (c0 : Nat) (l0 : List Int) (r : Bool) (w : World) (hs0 : Kd.V (Kd.int .u8) 5 w w.heap.size (fun k_ => P0_ k_) (.slice A0 l0.length c0) l0) (h : utf_Valid.f k l0 = some r) :
    Calls Try.prog 20 #[.slice A0 l0.length c0] w fun e w' => e = .returned (.bool r) ∧ Below w.heap.size w w' := by
  have HO0 := Aside0.mk (show Kd.V (Kd.int .u8) 5 w w.heap.size (fun k_ => (P0_ k_ ∨ w.heap.size ≤ k_)) (.slice A0 l0.length c0) l0 from Kd.V_mono hs0 (fun k_ hk => .inl hk))
  have HB := Aside0.mk (Below.refl w.heap.size w)
  have H : (utf_Valid.l0 k l0) = some r := h
  clear h
  have H' := Aside0.mk H
  clear H
  go_enter Try.func20, Try.ntmps20
  go_wp2
  go_loopg [0] k (fun kq v0 w' => ∃ (x0_1 : List Int), Aside0 (utf_Valid.l0 kq x0_1 = some r) ∧ Aside0 (kq ≤ k) ∧ Aside0 (Kd.V (Kd.int .u8) 5 w' w.heap.size (fun k_ => (P0_ k_ ∨ w.heap.size ≤ k_)) v0 x0_1) ∧ Aside0 (Below w.heap.size w w'))
  case atStart => exact ⟨(l0), H', ⟨Nat.le_refl _⟩, ⟨by (with_reducible repeat (first | apply Kd.V_alloc | apply Kd.V_drewN | apply Kd.V_drew)); exact HO0.out⟩, ⟨by repeat (first | (with_reducible first | exact HB.out | apply below_alloc | apply pw_below_drewN | apply below_drew1) | exact HB.out)⟩⟩
  case round =>
    clear H'
    obtain ⟨x0_1, HA, HK1, HO_0, HB⟩ := hrel
    cases gk with
    | zero => exact absurd HA.out (by simp [utf_Valid.l0])
    | succ k1 =>
      have H := HA.out
      clear HA
      simp only [utf_Valid.l0] at H
      by_cases c2 : (x0_1.length : Int) > 0
      · rw [if_pos c2] at H
        have c2b0 : decide (0 < (x0_1.length : Int)) = true := decide_eq_true c2
        have c2b1 : decide (0 < x0_1.length) = true := decide_eq_true (by omega)
        clear c2
        replace H := Option.bind_eq_some_iff.mp H
        obtain ⟨⟨t116, t117, t118⟩, A30, H⟩ := H
        replace H : (if t118 = true then (some false) else (if t116 = 65533 then (if t117 = 3 then (if 0 < (x0_1.length : Int) then (if (rd x0_1 0) = 239 then (if 1 < (x0_1.length : Int) then (if (rd x0_1 1) = 191 then (if 2 < (x0_1.length : Int) then (if (rd x0_1 2) = 189 then (if 0 ≤ t117 then (if t117 ≤ (x0_1.length : Int) then (utf_Valid.l0 k1 (x0_1.drop (t117 : Int).toNat)) else (none)) else (none)) else (some false)) else (none)) else (some false)) else (none)) else (some false)) else (none)) else (some false)) else (if 0 ≤ t117 then (if t117 ≤ (x0_1.length : Int) then (utf_Valid.l0 k1 (x0_1.drop (t117 : Int).toNat)) else (none)) else (none)))) = some r := H
        have A3 := Aside0.mk A30
        clear A30
        by_cases c4 : t118 = true
        · subst c4
          have H1 : (some false) = some r := by rw [if_pos rfl] at H; exact H
          clear H
          have H := H1
          clear H1
          obtain rfl := Option.some.inj H
          obtain ⟨Ao5, co5, eo5⟩ := Kd.V_slice HO_0.out
          subst eo5
          go_wp2_with (first | ((with_reducible refine gate_callee (f := 55) rfl ?_); refine goesL_ (some 11) rfl rfl Try.func55 (by kernel_rfl) rfl #[.slice Ao5 x0_1.length co5] rfl (by (try simp only [List.map_toArray, List.map_cons, List.map_nil]); first | done | rfl | (simp only [List.length_drop, List.length_take]; rfl)) ?_; (with_reducible refine (utf_parse.calls k1 _ _ x0_1 t116 t117 true _ ?side1 ?side2 A3.out).mono ?_); (case side1 => repeat (first | exact (Kd.V_reads' HO_0.out).2.2 | (with_reducible refine Kd.C_alloc ?_ _) | (with_reducible refine Kd.C_drewN ?_ _) | (with_reducible refine Kd.C_drew ?_))); (case side2 => exact (Kd.V_reads' HO_0.out).2.1); rintro e w' ⟨rfl, ⟨nd, rfl⟩⟩; refine ⟨_, rfl, ?_⟩))
          go_ret
          exact ⟨by first | rfl | (simp [errW_none, errW_some] <;> rfl) | (simp [*, errW_none, errW_some] <;> rfl) | (cases hz_ : t213.toList <;> simp [hz_, errW_none, errW_some]), by repeat (first | (with_reducible first | exact HB.out | apply below_alloc | apply pw_below_drewN | apply below_drew1) | exact HB.out)⟩
        · replace c4 := Bool.eq_false_iff.mpr c4
          subst c4
          have H1 : (if t116 = 65533 then (if t117 = 3 then (if 0 < (x0_1.length : Int) then (if (rd x0_1 0) = 239 then (if 1 < (x0_1.length : Int) then (if (rd x0_1 1) = 191 then (if 2 < (x0_1.length : Int) then (if (rd x0_1 2) = 189 then (if 0 ≤ t117 then (if t117 ≤ (x0_1.length : Int) then (utf_Valid.l0 k1 (x0_1.drop (t117 : Int).toNat)) else (none)) else (none)) else (some false)) else (none)) else (some false)) else (none)) else (some false)) else (none)) else (some false)) else (if 0 ≤ t117 then (if t117 ≤ (x0_1.length : Int) then (utf_Valid.l0 k1 (x0_1.drop (t117 : Int).toNat)) else (none)) else (none))) = some r := by rw [if_neg (show ¬ (false = true) by decide)] at H; exact H
          clear H
          have H := H1
          clear H1
          by_cases c6 : t116 = 65533
          · rw [if_pos c6] at H
            have c6b0 : (t116 == 65533) = true := beq_iff_eq.mpr c6
            have c6b1 : (t116 != 65533) = false := bne_eq_false_iff_eq.mpr c6
            clear c6
            by_cases c7 : t117 = 3
            · rw [if_pos c7] at H
              have c7b0 : (t117 == 3) = true := beq_iff_eq.mpr c7
              have c7b1 : (t117 != 3) = false := bne_eq_false_iff_eq.mpr c7
              clear c7
              by_cases c8 : 0 < (x0_1.length : Int)
              · rw [if_pos c8] at H
                have c8b0 : decide (0 < (x0_1.length : Int)) = true := decide_eq_true c8
                have c8b1 : decide (0 < x0_1.length) = true := decide_eq_true (by omega)
                clear c8
                by_cases c9 : (rd x0_1 0) = 239
                · rw [if_pos c9] at H
                  have c9b0 : ((rd x0_1 0) == 239) = true := beq_iff_eq.mpr c9
                  have c9b1 : ((rd x0_1 0) != 239) = false := bne_eq_false_iff_eq.mpr c9
                  clear c9
                  by_cases c10 : 1 < (x0_1.length : Int)
                  · rw [if_pos c10] at H
                    have c10b0 : decide (1 < (x0_1.length : Int)) = true := decide_eq_true c10
                    have c10b1 : decide (1 < x0_1.length) = true := decide_eq_true (by omega)
                    clear c10
                    by_cases c11 : (rd x0_1 1) = 191
                    · rw [if_pos c11] at H
                      have c11b0 : ((rd x0_1 1) == 191) = true := beq_iff_eq.mpr c11
                      have c11b1 : ((rd x0_1 1) != 191) = false := bne_eq_false_iff_eq.mpr c11
                      clear c11
                      by_cases c12 : 2 < (x0_1.length : Int)
                      · rw [if_pos c12] at H
                        have c12b0 : decide (2 < (x0_1.length : Int)) = true := decide_eq_true c12
                        have c12b1 : decide (2 < x0_1.length) = true := decide_eq_true (by omega)
                        clear c12
                        by_cases c13 : (rd x0_1 2) = 189
                        · rw [if_pos c13] at H
                          have c13b0 : ((rd x0_1 2) == 189) = true := beq_iff_eq.mpr c13
                          have c13b1 : ((rd x0_1 2) != 189) = false := bne_eq_false_iff_eq.mpr c13
                          clear c13
                          by_cases c14 : 0 ≤ t117
                          · rw [if_pos c14] at H
                            have c14b0 := eq_true c14
                            have c14b1 : decide (0 ≤ t117) = true := decide_eq_true c14
                            clear c14
                            by_cases c15 : t117 ≤ (x0_1.length : Int)
                            · rw [if_pos c15] at H
                              have c15b0 := eq_true c15
                              have c15b1 : decide (t117 ≤ (x0_1.length : Int)) = true := decide_eq_true c15
                              clear c15
                              obtain ⟨y122, hy122⟩ : ∃ y_ : List Int, y_ = (x0_1.drop (t117 : Int).toNat) := ⟨_, rfl⟩
                              replace H : (utf_Valid.l0 k1 y122) = some r := by first | (rw [hy122]; with_reducible exact H) | (have H2_ := (Option.bind_some _ _).symm.trans H; rw [hy122]; with_reducible exact H2_) | (have H2_ := (Option.bind_some _ _).symm.trans H; with_reducible exact H2_) | with_reducible exact H | (rw [hy122]; exact H) | exact H
                              have Ny122 := Aside0.mk hy122
                              clear hy122
                              have H' := Aside0.mk H
                              clear H
                              obtain ⟨Ao16, co16, eo16⟩ := Kd.V_slice HO_0.out
                              subst eo16
                              go_wp2_with (first | ((with_reducible refine gate_callee (f := 55) rfl ?_); refine goesL_ (some 11) rfl rfl Try.func55 (by kernel_rfl) rfl #[.slice Ao16 x0_1.length co16] rfl (by (try simp only [List.map_toArray, List.map_cons, List.map_nil]); first | done | rfl | (simp only [List.length_drop, List.length_take]; rfl)) ?_; (with_reducible refine (utf_parse.calls k1 _ _ x0_1 t116 t117 false _ ?side1 ?side2 A3.out).mono ?_); (case side1 => repeat (first | exact (Kd.V_reads' HO_0.out).2.2 | (with_reducible refine Kd.C_alloc ?_ _) | (with_reducible refine Kd.C_drewN ?_ _) | (with_reducible refine Kd.C_drew ?_))); (case side2 => exact (Kd.V_reads' HO_0.out).2.1); rintro e w' ⟨rfl, ⟨nd, rfl⟩⟩; refine ⟨_, rfl, ?_⟩; have p119 : 0 ≤ (0 : Int) := (by omega); have q119 : 0 < (x0_1.length : Int) := of_decide_eq_true (by first | (with_reducible assumption) | assumption); obtain ⟨ad119, e119, hx119_0⟩ := Kd.at_int (Kd.V_reads' HO_0.out).2.2 0 p119 q119; cases e119; have qi119 : (0 < x0_1.length) = True := eq_true (by omega); (try rw [show ((0 : Int)).toNat = 0 from rfl] at hx119_0); (try rw [Addr.add_zero'] at hx119_0); replace p119 := eq_true p119; replace q119 := eq_true q119; have p120 : 0 ≤ (1 : Int) := (by omega); have q120 : 1 < (x0_1.length : Int) := of_decide_eq_true (by first | (with_reducible assumption) | assumption); obtain ⟨ad120, e120, hx120_0⟩ := Kd.at_int (Kd.V_reads' HO_0.out).2.2 1 p120 q120; obtain rfl : ad119 = ad120 := (by injection e120); (try simp only [show (1 : Int).toNat = 1 from rfl, Nat.reduceMul, Nat.reduceEqDiff, Go.Addr.add, ↓reduceIte] at hx120_0); have qi120 : (1 < x0_1.length) = True := eq_true (by omega); (try rw [show ((1 : Int)).toNat = 1 from rfl] at hx120_0); replace p120 := eq_true p120; replace q120 := eq_true q120; have p121 : 0 ≤ (2 : Int) := (by omega); have q121 : 2 < (x0_1.length : Int) := of_decide_eq_true (by first | (with_reducible assumption) | assumption); obtain ⟨ad121, e121, hx121_0⟩ := Kd.at_int (Kd.V_reads' HO_0.out).2.2 2 p121 q121; obtain rfl : ad119 = ad121 := (by injection e121); (try simp only [show (2 : Int).toNat = 2 from rfl, Nat.reduceMul, Nat.reduceEqDiff, Go.Addr.add, ↓reduceIte] at hx121_0); have qi121 : (2 < x0_1.length) = True := eq_true (by omega); (try rw [show ((2 : Int)).toNat = 2 from rfl] at hx121_0); replace p121 := eq_true p121; replace q121 := eq_true q121; have q17 : (t117 : Int) ≤ ((x0_1.length : Int) : Int) := of_decide_eq_true (by first | (with_reducible assumption) | assumption); obtain ⟨i017, hi017, _, hsz17, _⟩ := info_parts info5; have hroom17 : x0_1.length ≤ co16 := (Kd.V_reads' HO_0.out).2.1; have hC17 : Kd.F (Kd.int .u8) _ _ (some ad119) x0_1.length x0_1 := (Kd.V_at (base := w.heap.size) HO_0.out).2.2; have q017 : (0 : Int) ≤ (t117 : Int) := of_decide_eq_true (by first | (with_reducible assumption) | assumption); have hcut17 := cut_from (P := Try.prog) 22 5 .i64 Try.underlying22 hi017 1 hsz17 (some ad119) x0_1.length co16 t117 q017 q17; have hr17 := Kd.F_cut (m := (t117 : Int).toNat) (c := co16) hC17 (by omega) hroom17; obtain ⟨A17, hA17⟩ : ∃ A1, A1 = (if co16 = (t117 : Int).toNat then (some ad119) else ((some ad119) : Option Addr).map (·.add ((t117 : Int).toNat * 1))) := ⟨_, rfl⟩; obtain ⟨c17, hc17⟩ : ∃ c1, c1 = co16 - (t117 : Int).toNat := ⟨_, rfl⟩; have hy17 : y122.length = x0_1.length - (t117 : Int).toNat := (by rw [Ny122.out, List.length_drop] <;> omega); rw [show (x0_1).drop (t117 : Int).toNat = y122 from Ny122.out.symm] at hr17; replace hr17 : Kd.F (Kd.int .u8) _ _ A17 y122.length y122 := (by rw [hA17]; exact hr17); rw [← hy17, ← hA17, ← hc17] at hcut17; have HO126 := Aside0.mk (show Kd.V (Kd.int .u8) 5 _ w.heap.size _ (.slice A17 y122.length c17) y122 from Kd.V_mk (by rw [hy17, hc17]; exact Nat.sub_le_sub_right hroom17 _) hr17); have HC126 := Aside0.mk (show y122.length ≤ c17 from by rw [hy17, hc17]; exact Nat.sub_le_sub_right hroom17 _); clear hr17 hC17 hroom17 hi017 hsz17 hc17; have KY17 := Aside0.mk hy17; have KA17 := Aside0.mk hA17; clear hy17 hA17; replace q17 := eq_true q17))
                              go_roundg k1
                              case measure => have := HK1.out; omega
                              case rel => exact ⟨(y122), H', ⟨by have := HK1.out; omega⟩, ⟨by (with_reducible repeat (first | apply Kd.V_alloc | apply Kd.V_drewN | apply Kd.V_drew)); exact HO126.out⟩, ⟨by repeat (first | (with_reducible first | exact HB.out | apply below_alloc | apply pw_below_drewN | apply below_drew1) | exact HB.out)⟩⟩
                            · rw [if_neg c15] at H
                              exact absurd H (by simp)
                          · rw [if_neg c14] at H
                            exact absurd H (by simp)
                        · rw [if_neg c13] at H
                          have c13b0 : ((rd x0_1 2) == 189) = false := beq_eq_false_iff_ne.mpr c13
                          have c13b1 : ((rd x0_1 2) != 189) = true := bne_iff_ne.mpr c13
                          obtain rfl := Option.some.inj H
                          obtain ⟨Ao18, co18, eo18⟩ := Kd.V_slice HO_0.out
                          subst eo18
                          go_wp2_with (first | ((with_reducible refine gate_callee (f := 55) rfl ?_); refine goesL_ (some 11) rfl rfl Try.func55 (by kernel_rfl) rfl #[.slice Ao18 x0_1.length co18] rfl (by (try simp only [List.map_toArray, List.map_cons, List.map_nil]); first | done | rfl | (simp only [List.length_drop, List.length_take]; rfl)) ?_; (with_reducible refine (utf_parse.calls k1 _ _ x0_1 t116 t117 false _ ?side1 ?side2 A3.out).mono ?_); (case side1 => repeat (first | exact (Kd.V_reads' HO_0.out).2.2 | (with_reducible refine Kd.C_alloc ?_ _) | (with_reducible refine Kd.C_drewN ?_ _) | (with_reducible refine Kd.C_drew ?_))); (case side2 => exact (Kd.V_reads' HO_0.out).2.1); rintro e w' ⟨rfl, ⟨nd, rfl⟩⟩; refine ⟨_, rfl, ?_⟩; have p119 : 0 ≤ (0 : Int) := (by omega); have q119 : 0 < (x0_1.length : Int) := of_decide_eq_true (by first | (with_reducible assumption) | assumption); obtain ⟨ad119, e119, hx119_0⟩ := Kd.at_int (Kd.V_reads' HO_0.out).2.2 0 p119 q119; cases e119; have qi119 : (0 < x0_1.length) = True := eq_true (by omega); (try rw [show ((0 : Int)).toNat = 0 from rfl] at hx119_0); (try rw [Addr.add_zero'] at hx119_0); replace p119 := eq_true p119; replace q119 := eq_true q119; have p120 : 0 ≤ (1 : Int) := (by omega); have q120 : 1 < (x0_1.length : Int) := of_decide_eq_true (by first | (with_reducible assumption) | assumption); obtain ⟨ad120, e120, hx120_0⟩ := Kd.at_int (Kd.V_reads' HO_0.out).2.2 1 p120 q120; obtain rfl : ad119 = ad120 := (by injection e120); (try simp only [show (1 : Int).toNat = 1 from rfl, Nat.reduceMul, Nat.reduceEqDiff, Go.Addr.add, ↓reduceIte] at hx120_0); have qi120 : (1 < x0_1.length) = True := eq_true (by omega); (try rw [show ((1 : Int)).toNat = 1 from rfl] at hx120_0); replace p120 := eq_true p120; replace q120 := eq_true q120; have p121 : 0 ≤ (2 : Int) := (by omega); have q121 : 2 < (x0_1.length : Int) := of_decide_eq_true (by first | (with_reducible assumption) | assumption); obtain ⟨ad121, e121, hx121_0⟩ := Kd.at_int (Kd.V_reads' HO_0.out).2.2 2 p121 q121; obtain rfl : ad119 = ad121 := (by injection e121); (try simp only [show (2 : Int).toNat = 2 from rfl, Nat.reduceMul, Nat.reduceEqDiff, Go.Addr.add, ↓reduceIte] at hx121_0); have qi121 : (2 < x0_1.length) = True := eq_true (by omega); (try rw [show ((2 : Int)).toNat = 2 from rfl] at hx121_0); replace p121 := eq_true p121; replace q121 := eq_true q121))
                          go_ret
                          exact ⟨by first | rfl | (simp [errW_none, errW_some] <;> rfl) | (simp [*, errW_none, errW_some] <;> rfl) | (cases hz_ : t213.toList <;> simp [hz_, errW_none, errW_some]), by repeat (first | (with_reducible first | exact HB.out | apply below_alloc | apply pw_below_drewN | apply below_drew1) | exact HB.out)⟩
                      · rw [if_neg c12] at H
                        exact absurd H (by simp)
                    · rw [if_neg c11] at H
                      have c11b0 : ((rd x0_1 1) == 191) = false := beq_eq_false_iff_ne.mpr c11
                      have c11b1 : ((rd x0_1 1) != 191) = true := bne_iff_ne.mpr c11
                      obtain rfl := Option.some.inj H
                      obtain ⟨Ao19, co19, eo19⟩ := Kd.V_slice HO_0.out
                      subst eo19
                      go_wp2_with (first | ((with_reducible refine gate_callee (f := 55) rfl ?_); refine goesL_ (some 11) rfl rfl Try.func55 (by kernel_rfl) rfl #[.slice Ao19 x0_1.length co19] rfl (by (try simp only [List.map_toArray, List.map_cons, List.map_nil]); first | done | rfl | (simp only [List.length_drop, List.length_take]; rfl)) ?_; (with_reducible refine (utf_parse.calls k1 _ _ x0_1 t116 t117 false _ ?side1 ?side2 A3.out).mono ?_); (case side1 => repeat (first | exact (Kd.V_reads' HO_0.out).2.2 | (with_reducible refine Kd.C_alloc ?_ _) | (with_reducible refine Kd.C_drewN ?_ _) | (with_reducible refine Kd.C_drew ?_))); (case side2 => exact (Kd.V_reads' HO_0.out).2.1); rintro e w' ⟨rfl, ⟨nd, rfl⟩⟩; refine ⟨_, rfl, ?_⟩; have p119 : 0 ≤ (0 : Int) := (by omega); have q119 : 0 < (x0_1.length : Int) := of_decide_eq_true (by first | (with_reducible assumption) | assumption); obtain ⟨ad119, e119, hx119_0⟩ := Kd.at_int (Kd.V_reads' HO_0.out).2.2 0 p119 q119; cases e119; have qi119 : (0 < x0_1.length) = True := eq_true (by omega); (try rw [show ((0 : Int)).toNat = 0 from rfl] at hx119_0); (try rw [Addr.add_zero'] at hx119_0); replace p119 := eq_true p119; replace q119 := eq_true q119; have p120 : 0 ≤ (1 : Int) := (by omega); have q120 : 1 < (x0_1.length : Int) := of_decide_eq_true (by first | (with_reducible assumption) | assumption); obtain ⟨ad120, e120, hx120_0⟩ := Kd.at_int (Kd.V_reads' HO_0.out).2.2 1 p120 q120; obtain rfl : ad119 = ad120 := (by injection e120); (try simp only [show (1 : Int).toNat = 1 from rfl, Nat.reduceMul, Nat.reduceEqDiff, Go.Addr.add, ↓reduceIte] at hx120_0); have qi120 : (1 < x0_1.length) = True := eq_true (by omega); (try rw [show ((1 : Int)).toNat = 1 from rfl] at hx120_0); replace p120 := eq_true p120; replace q120 := eq_true q120))
                      go_ret
                      exact ⟨by first | rfl | (simp [errW_none, errW_some] <;> rfl) | (simp [*, errW_none, errW_some] <;> rfl) | (cases hz_ : t213.toList <;> simp [hz_, errW_none, errW_some]), by repeat (first | (with_reducible first | exact HB.out | apply below_alloc | apply pw_below_drewN | apply below_drew1) | exact HB.out)⟩
                  · rw [if_neg c10] at H
                    exact absurd H (by simp)
                · rw [if_neg c9] at H
                  have c9b0 : ((rd x0_1 0) == 239) = false := beq_eq_false_iff_ne.mpr c9
                  have c9b1 : ((rd x0_1 0) != 239) = true := bne_iff_ne.mpr c9
                  obtain rfl := Option.some.inj H
                  obtain ⟨Ao20, co20, eo20⟩ := Kd.V_slice HO_0.out
                  subst eo20
                  go_wp2_with (first | ((with_reducible refine gate_callee (f := 55) rfl ?_); refine goesL_ (some 11) rfl rfl Try.func55 (by kernel_rfl) rfl #[.slice Ao20 x0_1.length co20] rfl (by (try simp only [List.map_toArray, List.map_cons, List.map_nil]); first | done | rfl | (simp only [List.length_drop, List.length_take]; rfl)) ?_; (with_reducible refine (utf_parse.calls k1 _ _ x0_1 t116 t117 false _ ?side1 ?side2 A3.out).mono ?_); (case side1 => repeat (first | exact (Kd.V_reads' HO_0.out).2.2 | (with_reducible refine Kd.C_alloc ?_ _) | (with_reducible refine Kd.C_drewN ?_ _) | (with_reducible refine Kd.C_drew ?_))); (case side2 => exact (Kd.V_reads' HO_0.out).2.1); rintro e w' ⟨rfl, ⟨nd, rfl⟩⟩; refine ⟨_, rfl, ?_⟩; have p119 : 0 ≤ (0 : Int) := (by omega); have q119 : 0 < (x0_1.length : Int) := of_decide_eq_true (by first | (with_reducible assumption) | assumption); obtain ⟨ad119, e119, hx119_0⟩ := Kd.at_int (Kd.V_reads' HO_0.out).2.2 0 p119 q119; cases e119; have qi119 : (0 < x0_1.length) = True := eq_true (by omega); (try rw [show ((0 : Int)).toNat = 0 from rfl] at hx119_0); (try rw [Addr.add_zero'] at hx119_0); replace p119 := eq_true p119; replace q119 := eq_true q119))
                  go_ret
                  exact ⟨by first | rfl | (simp [errW_none, errW_some] <;> rfl) | (simp [*, errW_none, errW_some] <;> rfl) | (cases hz_ : t213.toList <;> simp [hz_, errW_none, errW_some]), by repeat (first | (with_reducible first | exact HB.out | apply below_alloc | apply pw_below_drewN | apply below_drew1) | exact HB.out)⟩
              · rw [if_neg c8] at H
                exact absurd H (by simp)
            · rw [if_neg c7] at H
              have c7b0 : (t117 == 3) = false := beq_eq_false_iff_ne.mpr c7
              have c7b1 : (t117 != 3) = true := bne_iff_ne.mpr c7
              obtain rfl := Option.some.inj H
              obtain ⟨Ao21, co21, eo21⟩ := Kd.V_slice HO_0.out
              subst eo21
              go_wp2_with (first | ((with_reducible refine gate_callee (f := 55) rfl ?_); refine goesL_ (some 11) rfl rfl Try.func55 (by kernel_rfl) rfl #[.slice Ao21 x0_1.length co21] rfl (by (try simp only [List.map_toArray, List.map_cons, List.map_nil]); first | done | rfl | (simp only [List.length_drop, List.length_take]; rfl)) ?_; (with_reducible refine (utf_parse.calls k1 _ _ x0_1 t116 t117 false _ ?side1 ?side2 A3.out).mono ?_); (case side1 => repeat (first | exact (Kd.V_reads' HO_0.out).2.2 | (with_reducible refine Kd.C_alloc ?_ _) | (with_reducible refine Kd.C_drewN ?_ _) | (with_reducible refine Kd.C_drew ?_))); (case side2 => exact (Kd.V_reads' HO_0.out).2.1); rintro e w' ⟨rfl, ⟨nd, rfl⟩⟩; refine ⟨_, rfl, ?_⟩))
              go_ret
              exact ⟨by first | rfl | (simp [errW_none, errW_some] <;> rfl) | (simp [*, errW_none, errW_some] <;> rfl) | (cases hz_ : t213.toList <;> simp [hz_, errW_none, errW_some]), by repeat (first | (with_reducible first | exact HB.out | apply below_alloc | apply pw_below_drewN | apply below_drew1) | exact HB.out)⟩
          · rw [if_neg c6] at H
            have c6b0 : (t116 == 65533) = false := beq_eq_false_iff_ne.mpr c6
            have c6b1 : (t116 != 65533) = true := bne_iff_ne.mpr c6
            by_cases c22 : 0 ≤ t117
            · rw [if_pos c22] at H
              have c22b0 := eq_true c22
              have c22b1 : decide (0 ≤ t117) = true := decide_eq_true c22
              clear c22
              by_cases c23 : t117 ≤ (x0_1.length : Int)
              · rw [if_pos c23] at H
                have c23b0 := eq_true c23
                have c23b1 : decide (t117 ≤ (x0_1.length : Int)) = true := decide_eq_true c23
                clear c23
                obtain ⟨y127, hy127⟩ : ∃ y_ : List Int, y_ = (x0_1.drop (t117 : Int).toNat) := ⟨_, rfl⟩
                replace H : (utf_Valid.l0 k1 y127) = some r := by first | (rw [hy127]; with_reducible exact H) | (have H2_ := (Option.bind_some _ _).symm.trans H; rw [hy127]; with_reducible exact H2_) | (have H2_ := (Option.bind_some _ _).symm.trans H; with_reducible exact H2_) | with_reducible exact H | (rw [hy127]; exact H) | exact H
                have Ny127 := Aside0.mk hy127
                clear hy127
                have H' := Aside0.mk H
                clear H
                obtain ⟨Ao24, co24, eo24⟩ := Kd.V_slice HO_0.out
                subst eo24
                go_wp2_with (first | ((with_reducible refine gate_callee (f := 55) rfl ?_); refine goesL_ (some 11) rfl rfl Try.func55 (by kernel_rfl) rfl #[.slice Ao24 x0_1.length co24] rfl (by (try simp only [List.map_toArray, List.map_cons, List.map_nil]); first | done | rfl | (simp only [List.length_drop, List.length_take]; rfl)) ?_; (with_reducible refine (utf_parse.calls k1 _ _ x0_1 t116 t117 false _ ?side1 ?side2 A3.out).mono ?_); (case side1 => repeat (first | exact (Kd.V_reads' HO_0.out).2.2 | (with_reducible refine Kd.C_alloc ?_ _) | (with_reducible refine Kd.C_drewN ?_ _) | (with_reducible refine Kd.C_drew ?_))); (case side2 => exact (Kd.V_reads' HO_0.out).2.1); rintro e w' ⟨rfl, ⟨nd, rfl⟩⟩; refine ⟨_, rfl, ?_⟩; have q25 : (t117 : Int) ≤ ((x0_1.length : Int) : Int) := of_decide_eq_true (by first | (with_reducible assumption) | assumption); obtain ⟨i025, hi025, _, hsz25, _⟩ := info_parts info5; have hroom25 : x0_1.length ≤ co24 := (Kd.V_reads' HO_0.out).2.1; have hC25 : Kd.F (Kd.int .u8) _ _ Ao24 x0_1.length x0_1 := (Kd.V_at (base := w.heap.size) HO_0.out).2.2; have q025 : (0 : Int) ≤ (t117 : Int) := of_decide_eq_true (by first | (with_reducible assumption) | assumption); have hcut25 := cut_from (P := Try.prog) 22 5 .i64 Try.underlying22 hi025 1 hsz25 Ao24 x0_1.length co24 t117 q025 q25; have hr25 := Kd.F_cut (m := (t117 : Int).toNat) (c := co24) hC25 (by omega) hroom25; obtain ⟨A25, hA25⟩ : ∃ A1, A1 = (if co24 = (t117 : Int).toNat then Ao24 else (Ao24 : Option Addr).map (·.add ((t117 : Int).toNat * 1))) := ⟨_, rfl⟩; obtain ⟨c25, hc25⟩ : ∃ c1, c1 = co24 - (t117 : Int).toNat := ⟨_, rfl⟩; have hy25 : y127.length = x0_1.length - (t117 : Int).toNat := (by rw [Ny127.out, List.length_drop] <;> omega); rw [show (x0_1).drop (t117 : Int).toNat = y127 from Ny127.out.symm] at hr25; replace hr25 : Kd.F (Kd.int .u8) _ _ A25 y127.length y127 := (by rw [hA25]; exact hr25); rw [← hy25, ← hA25, ← hc25] at hcut25; have HO131 := Aside0.mk (show Kd.V (Kd.int .u8) 5 _ w.heap.size _ (.slice A25 y127.length c25) y127 from Kd.V_mk (by rw [hy25, hc25]; exact Nat.sub_le_sub_right hroom25 _) hr25); have HC131 := Aside0.mk (show y127.length ≤ c25 from by rw [hy25, hc25]; exact Nat.sub_le_sub_right hroom25 _); clear hr25 hC25 hroom25 hi025 hsz25 hc25; have KY25 := Aside0.mk hy25; have KA25 := Aside0.mk hA25; clear hy25 hA25; replace q25 := eq_true q25))
                go_roundg k1
                case measure => have := HK1.out; omega
                case rel => exact ⟨(y127), H', ⟨by have := HK1.out; omega⟩, ⟨by (with_reducible repeat (first | apply Kd.V_alloc | apply Kd.V_drewN | apply Kd.V_drew)); exact HO131.out⟩, ⟨by repeat (first | (with_reducible first | exact HB.out | apply below_alloc | apply pw_below_drewN | apply below_drew1) | exact HB.out)⟩⟩
              · rw [if_neg c23] at H
                exact absurd H (by simp)
            · rw [if_neg c22] at H
              exact absurd H (by simp)
      · rw [if_neg c2] at H
        have c2b0 : decide (0 < (x0_1.length : Int)) = false := decide_eq_false c2
        have c2b1 : decide (0 < x0_1.length) = false := decide_eq_false (by omega)
        clear c2
        obtain rfl := Option.some.inj H
        obtain ⟨Ao26, co26, eo26⟩ := Kd.V_slice HO_0.out
        subst eo26
        go_wp2
        go_ret
        exact ⟨by first | rfl | (simp [errW_none, errW_some] <;> rfl) | (simp [*, errW_none, errW_some] <;> rfl) | (cases hz_ : t213.toList <;> simp [hz_, errW_none, errW_some]), by repeat (first | (with_reducible first | exact HB.out | apply below_alloc | apply pw_below_drewN | apply below_drew1) | exact HB.out)⟩

end Go.Proofs.Ytglcopljhanhmaa.PKeyBytes
