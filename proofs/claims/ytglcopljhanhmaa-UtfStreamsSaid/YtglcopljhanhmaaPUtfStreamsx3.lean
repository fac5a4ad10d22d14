/- What the law UtfStreams reaches: each function with its contract. -/
import Derived.Test.YtglcopljhanhmaaPUtfStreamsx0
import Derived.Test.YtglcopljhanhmaaPUtfStreamsx2
namespace Go.Proofs.Ytglcopljhanhmaa.PUtfStreams
open Go.RowKit Go.Proofs.YtglcopljhanhmaaW.PrintWords Go.Proofs.YtglcopljhanhmaaW.PrintLast Go.Proofs.YtglcopljhanhmaaW.PrintMore
attribute [local go_sem] isSome_setCell max2_int min2_int max_two min_two max_three min_three max_four min_four   -- for this text's walks alone
set_option linter.unusedVariables false
set_option linter.unusedSimpArgs false

/-! ### utf_lead: function 66 -/
mutual
def utf_lead.j0 : Nat → Int → Int → Int → Bool → Option (Int × Int × Int)
  | 0, _, _, _, _ => none
  | k + 1, x0, x5, x6, x13 => if x13 = true then (some (0, x5, x6)) else (if x0 < 224 then (some (2, x5, x6)) else (if x0 = 224 then (some (3, 160, x6)) else (if x0 = 237 then (some (3, x5, 159)) else (if x0 = 240 then (some (4, 144, x6)) else (if x0 = 241 then (utf_lead.j1 k x5 x6 3 x0 (x0 == 241)) else (if x0 = 242 then (utf_lead.j1 k x5 x6 3 x0 (x0 == 242)) else (utf_lead.j1 k x5 x6 3 x0 (x0 == 243))))))))
def utf_lead.j1 : Nat → Int → Int → Int → Int → Bool → Option (Int × Int × Int)
  | 0, _, _, _, _, _ => none
  | k + 1, x5, x6, x7, x27, x34 => if x34 = true then (some (4, x5, x6)) else (if x27 = 244 then (some (4, x5, 143)) else (some (x7, x5, x6)))
end
def utf_lead.f (k : Nat) (a0 : Int) : Option (Int × Int × Int) := if a0 < 128 then (some (1, 128, 191)) else (if a0 < 194 then (utf_lead.j0 k a0 128 191 true) else (utf_lead.j0 k a0 128 191 (decide (a0 > 244))))
theorem utf_lead.mono_l : ∀ k, (∀ y0 y1 y2 y3, LeO (utf_lead.j0 k y0 y1 y2 y3) (utf_lead.j0 (k + 1) y0 y1 y2 y3)) ∧ (∀ y0 y1 y2 y3 y4, LeO (utf_lead.j1 k y0 y1 y2 y3 y4) (utf_lead.j1 (k + 1) y0 y1 y2 y3 y4))
  | 0 => ⟨fun _ _ _ _ r h => by simp [utf_lead.j0] at h, fun _ _ _ _ _ r h => by simp [utf_lead.j1] at h⟩
  | k + 1 => by
    obtain ⟨ih0, ih1⟩ := utf_lead.mono_l k
    refine ⟨?_, ?_⟩
    · intro y0 y1 y2 y3
      unfold utf_lead.j0
      repeat' first
      | (with_reducible exact ih0 _ _ _ _)
      | (with_reducible exact ih1 _ _ _ _ _)
      | (with_reducible exact LeO.refl _)
      | (with_reducible exact LeO.none _)
      | (with_reducible refine LeO.ite ?_ ?_)
      | (with_reducible refine LeO.bind ?_ (fun _ => ?_))
      | exact ih0 _ _ _ _
      | exact ih1 _ _ _ _ _
      | exact LeO.none _
      | refine LeO.ite ?_ ?_
      | refine LeO.bind ?_ (fun _ => ?_)
    · intro y0 y1 y2 y3 y4
      unfold utf_lead.j1
      repeat' first
      | (with_reducible exact ih0 _ _ _ _)
      | (with_reducible exact ih1 _ _ _ _ _)
      | (with_reducible exact LeO.refl _)
      | (with_reducible exact LeO.none _)
      | (with_reducible refine LeO.ite ?_ ?_)
      | (with_reducible refine LeO.bind ?_ (fun _ => ?_))
      | exact ih0 _ _ _ _
      | exact ih1 _ _ _ _ _
      | exact LeO.none _
      | refine LeO.ite ?_ ?_
      | refine LeO.bind ?_ (fun _ => ?_)
theorem utf_lead.mono : ∀ a0 k, LeO (utf_lead.f k a0) (utf_lead.f (k + 1) a0) := by
  intro a0 k
  obtain ⟨ih0, ih1⟩ := utf_lead.mono_l k
  unfold utf_lead.f
  repeat' first
      | (with_reducible exact ih0 _ _ _ _)
      | (with_reducible exact ih1 _ _ _ _ _)
      | (with_reducible exact LeO.refl _)
      | (with_reducible exact LeO.none _)
      | (with_reducible refine LeO.ite ?_ ?_)
      | (with_reducible refine LeO.bind ?_ (fun _ => ?_))
      | exact ih0 _ _ _ _
      | exact ih1 _ _ _ _ _
      | exact LeO.none _
      | refine LeO.ite ?_ ?_
      | refine LeO.bind ?_ (fun _ => ?_)
set_option maxHeartbeats 8000000 in
set_option maxRecDepth 100000 in
theorem utf_lead.calls (k : Nat) (a0 : Int) (r1 : Int) (r2 : Int) (r3 : Int) (w : World) (h : utf_lead.f k a0 = some (r1, r2, r3)) :
    Calls Try.prog 66 #[.int .u8 a0] w fun e w' => e = .returned (.tuple #[.int .i64 r1, .int .u8 r2, .int .u8 r3]) ∧ Drawn0 w w' := by
  have H : (if a0 < 128 then (some (1, 128, 191)) else (if a0 < 194 then (utf_lead.j0 k a0 128 191 true) else (utf_lead.j0 k a0 128 191 (decide (a0 > 244))))) = some (r1, r2, r3) := h
  clear h
  by_cases c2 : a0 < 128
  · rw [if_pos c2] at H
    have c2b0 : decide (a0 < 128) = true := decide_eq_true c2
    clear c2
    simp only [Option.some.injEq, Prod.mk.injEq] at H
    obtain ⟨rfl, rfl, rfl⟩ := H
    go_enter Try.func66, Try.ntmps66
    go_wp2
    go_ret3
    exact ⟨by first | rfl | (simp; done) | (simp [*]; done), by repeat (first | exact Drawn0.refl _ | apply Drawn0.step)⟩
  · rw [if_neg c2] at H
    have c2b0 : decide (a0 < 128) = false := decide_eq_false c2
    clear c2
    have HC3 := Aside0.mk H
    clear H
    go_enter Try.func66, Try.ntmps66
    go_upto_region 4 with (fail)
    go_cut [13] (fun v13 wc => ∃ (kq : Nat) (x13_2 : Bool), v13 = .bool x13_2 ∧ Aside0 (utf_lead.j0 kq a0 128 191 x13_2 = some (r1, r2, r3)) ∧ Aside0 (kq ≤ k) ∧ Drawn0 w wc)
    case first =>
      have H := HC3.out
      clear HC3
      by_cases c4 : a0 < 194
      · rw [if_pos c4] at H
        have c4b0 : decide (a0 < 194) = true := decide_eq_true c4
        clear c4
        (first | rw [c4b0] | (simp only [i64_w, i32_w]; rw [c4b0]) | skip)
        have H' := Aside0.mk H
        clear H
        go_wp2
        go_meet
        case rel => exact ⟨_, (true), (by first | rfl | (simp; done) | (simp [*]; done)), H', ⟨by first | omega | exact Nat.le_refl _⟩, by repeat (first | exact Drawn0.refl _ | apply Drawn0.step)⟩
      · rw [if_neg c4] at H
        have c4b0 : decide (a0 < 194) = false := decide_eq_false c4
        clear c4
        (first | rw [c4b0] | (simp only [i64_w, i32_w]; rw [c4b0]) | skip)
        have H' := Aside0.mk H
        clear H
        go_wp2
        go_meet
        case rel => exact ⟨_, (decide (a0 > 244)), (by first | rfl | (simp; done) | (simp [*]; done)), H', ⟨by first | omega | exact Nat.le_refl _⟩, by repeat (first | exact Drawn0.refl _ | apply Drawn0.step)⟩
    case rest =>
      clear HC3
      try clear c2
      try clear c2b0
      try clear p2
      try clear c4
      try clear c4b0
      obtain ⟨kq, x13_2, rfl, HA, HJ2, ⟨mc2, rfl⟩⟩ := hcut
      cases kq with
      | zero => exact absurd HA.out (by simp [utf_lead.j0])
      | succ kj2 =>
        have H := HA.out
        clear HA
        simp only [utf_lead.j0] at H
        by_cases c5 : x13_2 = true
        · subst c5
          have H1 : (some (0, 128, 191)) = some (r1, r2, r3) := by rw [if_pos rfl] at H; exact H
          clear H
          have H := H1
          clear H1
          simp only [Option.some.injEq, Prod.mk.injEq] at H
          obtain ⟨rfl, rfl, rfl⟩ := H
          go_wp2
          go_ret3
          exact ⟨by first | rfl | (simp; done) | (simp [*]; done), by repeat (first | exact Drawn0.refl _ | apply Drawn0.step)⟩
        · replace c5 := Bool.eq_false_iff.mpr c5
          subst c5
          have H1 : (if a0 < 224 then (some (2, 128, 191)) else (if a0 = 224 then (some (3, 160, 191)) else (if a0 = 237 then (some (3, 128, 159)) else (if a0 = 240 then (some (4, 144, 191)) else (if a0 = 241 then (utf_lead.j1 kj2 128 191 3 a0 (a0 == 241)) else (if a0 = 242 then (utf_lead.j1 kj2 128 191 3 a0 (a0 == 242)) else (utf_lead.j1 kj2 128 191 3 a0 (a0 == 243)))))))) = some (r1, r2, r3) := by rw [if_neg (show ¬ (false = true) by decide)] at H; exact H
          clear H
          have H := H1
          clear H1
          by_cases c6 : a0 < 224
          · rw [if_pos c6] at H
            have c6b0 : decide (a0 < 224) = true := decide_eq_true c6
            clear c6
            simp only [Option.some.injEq, Prod.mk.injEq] at H
            obtain ⟨rfl, rfl, rfl⟩ := H
            go_wp2
            go_ret3
            exact ⟨by first | rfl | (simp; done) | (simp [*]; done), by repeat (first | exact Drawn0.refl _ | apply Drawn0.step)⟩
          · rw [if_neg c6] at H
            have c6b0 : decide (a0 < 224) = false := decide_eq_false c6
            clear c6
            by_cases c7 : a0 = 224
            · rw [if_pos c7] at H
              have c7b0 : (a0 == 224) = true := beq_iff_eq.mpr c7
              have c7b1 : (a0 != 224) = false := bne_eq_false_iff_eq.mpr c7
              clear c7
              simp only [Option.some.injEq, Prod.mk.injEq] at H
              obtain ⟨rfl, rfl, rfl⟩ := H
              go_wp2
              go_ret3
              exact ⟨by first | rfl | (simp; done) | (simp [*]; done), by repeat (first | exact Drawn0.refl _ | apply Drawn0.step)⟩
            · rw [if_neg c7] at H
              have c7b0 : (a0 == 224) = false := beq_eq_false_iff_ne.mpr c7
              have c7b1 : (a0 != 224) = true := bne_iff_ne.mpr c7
              by_cases c8 : a0 = 237
              · rw [if_pos c8] at H
                have c8b0 : (a0 == 237) = true := beq_iff_eq.mpr c8
                have c8b1 : (a0 != 237) = false := bne_eq_false_iff_eq.mpr c8
                clear c8
                simp only [Option.some.injEq, Prod.mk.injEq] at H
                obtain ⟨rfl, rfl, rfl⟩ := H
                go_wp2
                go_ret3
                exact ⟨by first | rfl | (simp; done) | (simp [*]; done), by repeat (first | exact Drawn0.refl _ | apply Drawn0.step)⟩
              · rw [if_neg c8] at H
                have c8b0 : (a0 == 237) = false := beq_eq_false_iff_ne.mpr c8
                have c8b1 : (a0 != 237) = true := bne_iff_ne.mpr c8
                by_cases c9 : a0 = 240
                · rw [if_pos c9] at H
                  have c9b0 : (a0 == 240) = true := beq_iff_eq.mpr c9
                  have c9b1 : (a0 != 240) = false := bne_eq_false_iff_eq.mpr c9
                  clear c9
                  simp only [Option.some.injEq, Prod.mk.injEq] at H
                  obtain ⟨rfl, rfl, rfl⟩ := H
                  go_wp2
                  go_ret3
                  exact ⟨by first | rfl | (simp; done) | (simp [*]; done), by repeat (first | exact Drawn0.refl _ | apply Drawn0.step)⟩
                · rw [if_neg c9] at H
                  have c9b0 : (a0 == 240) = false := beq_eq_false_iff_ne.mpr c9
                  have c9b1 : (a0 != 240) = true := bne_iff_ne.mpr c9
                  have HC10 := Aside0.mk H
                  clear H
                  go_upto_if 34 with (fail)
                  go_cut [34] (fun v34 wc => ∃ (kq : Nat) (x34_9 : Bool), v34 = .bool x34_9 ∧ Aside0 (utf_lead.j1 kq 128 191 3 a0 x34_9 = some (r1, r2, r3)) ∧ Aside0 (kq ≤ kj2) ∧ Drawn0 w wc)
                  case first =>
                    have H := HC10.out
                    clear HC10
                    by_cases c11 : a0 = 241
                    · rw [if_pos c11] at H
                      have c11b0 : (a0 == 241) = true := beq_iff_eq.mpr c11
                      have c11b1 : (a0 != 241) = false := bne_eq_false_iff_eq.mpr c11
                      clear c11
                      (first | rw [c11b0] | (simp only [i64_w, i32_w]; rw [c11b0]) | skip)
                      have H' := Aside0.mk H
                      clear H
                      go_wp2
                      go_meet
                      case rel => exact ⟨_, ((a0 == 241)), (by first | rfl | (simp; done) | (simp [*]; done)), H', ⟨by have := HJ2.out; first | omega | exact Nat.le_refl _⟩, by repeat (first | exact Drawn0.refl _ | apply Drawn0.step)⟩
                    · rw [if_neg c11] at H
                      have c11b0 : (a0 == 241) = false := beq_eq_false_iff_ne.mpr c11
                      have c11b1 : (a0 != 241) = true := bne_iff_ne.mpr c11
                      (first | rw [c11b0] | (simp only [i64_w, i32_w]; rw [c11b0]) | skip)
                      by_cases c12 : a0 = 242
                      · rw [if_pos c12] at H
                        have c12b0 : (a0 == 242) = true := beq_iff_eq.mpr c12
                        have c12b1 : (a0 != 242) = false := bne_eq_false_iff_eq.mpr c12
                        clear c12
                        have H' := Aside0.mk H
                        clear H
                        go_wp2
                        go_meet
                        case rel => exact ⟨_, ((a0 == 242)), (by first | rfl | (simp; done) | (simp [*]; done)), H', ⟨by have := HJ2.out; first | omega | exact Nat.le_refl _⟩, by repeat (first | exact Drawn0.refl _ | apply Drawn0.step)⟩
                      · rw [if_neg c12] at H
                        have c12b0 : (a0 == 242) = false := beq_eq_false_iff_ne.mpr c12
                        have c12b1 : (a0 != 242) = true := bne_iff_ne.mpr c12
                        have H' := Aside0.mk H
                        clear H
                        go_wp2
                        go_meet
                        case rel => exact ⟨_, ((a0 == 243)), (by first | rfl | (simp; done) | (simp [*]; done)), H', ⟨by have := HJ2.out; first | omega | exact Nat.le_refl _⟩, by repeat (first | exact Drawn0.refl _ | apply Drawn0.step)⟩
                  case rest =>
                    clear HC10
                    try clear c1
                    try clear c2
                    try clear c2b0
                    try clear p2
                    try clear c4
                    try clear c4b0
                    try clear c5
                    try clear c6
                    try clear c6b0
                    try clear c7
                    try clear c7b0
                    try clear c7b1
                    try clear c8
                    try clear c8b0
                    try clear c8b1
                    try clear c9
                    try clear c9b0
                    try clear c9b1
                    try clear c11
                    try clear c11b0
                    try clear c11b1
                    try clear c12
                    try clear c12b0
                    try clear c12b1
                    try clear p2
                    obtain ⟨kq, x34_9, rfl, HA, HJ9, ⟨mc9, rfl⟩⟩ := hcut
                    cases kq with
                    | zero => exact absurd HA.out (by simp [utf_lead.j1])
                    | succ kj9 =>
                      have H := HA.out
                      clear HA
                      simp only [utf_lead.j1] at H
                      by_cases c13 : x34_9 = true
                      · subst c13
                        have H1 : (some (4, 128, 191)) = some (r1, r2, r3) := by rw [if_pos rfl] at H; exact H
                        clear H
                        have H := H1
                        clear H1
                        simp only [Option.some.injEq, Prod.mk.injEq] at H
                        obtain ⟨rfl, rfl, rfl⟩ := H
                        go_wp2
                        go_ret3
                        exact ⟨by first | rfl | (simp; done) | (simp [*]; done), by repeat (first | exact Drawn0.refl _ | apply Drawn0.step)⟩
                      · replace c13 := Bool.eq_false_iff.mpr c13
                        subst c13
                        have H1 : (if a0 = 244 then (some (4, 128, 143)) else (some (3, 128, 191))) = some (r1, r2, r3) := by rw [if_neg (show ¬ (false = true) by decide)] at H; exact H
                        clear H
                        have H := H1
                        clear H1
                        by_cases c14 : a0 = 244
                        · rw [if_pos c14] at H
                          have c14b0 : (a0 == 244) = true := beq_iff_eq.mpr c14
                          have c14b1 : (a0 != 244) = false := bne_eq_false_iff_eq.mpr c14
                          clear c14
                          simp only [Option.some.injEq, Prod.mk.injEq] at H
                          obtain ⟨rfl, rfl, rfl⟩ := H
                          go_wp2
                          go_ret3
                          exact ⟨by first | rfl | (simp; done) | (simp [*]; done), by repeat (first | exact Drawn0.refl _ | apply Drawn0.step)⟩
                        · rw [if_neg c14] at H
                          have c14b0 : (a0 == 244) = false := beq_eq_false_iff_ne.mpr c14
                          have c14b1 : (a0 != 244) = true := bne_iff_ne.mpr c14
                          simp only [Option.some.injEq, Prod.mk.injEq] at H
                          obtain ⟨rfl, rfl, rfl⟩ := H
                          go_wp2
                          go_ret3
                          exact ⟨by first | rfl | (simp; done) | (simp [*]; done), by repeat (first | exact Drawn0.refl _ | apply Drawn0.step)⟩

/-! ### utf_parse: function 55 -/
def utf_parse.l0 : Nat → List Int → Int → Int → Int → Int → Int → Option (Int × Int × Bool)
  | 0, _, _, _, _, _, _ => none
  | k + 1, x0, x5, x6, x7, x8, x9 => if x9 < x5 then (if x9 = (x0.length : Int) then (some (0, 0, true)) else (if 0 ≤ x9 then (if x9 < (x0.length : Int) then (if (rd x0 x9) < x6 then (some (65533, x9, false)) else (if (rd x0 x9) > x7 then (some (65533, x9, false)) else (utf_parse.l0 k x0 x5 128 191 (Go.bits .or .i32 (wrap32 (x8 * 64)) (wrap32 (Go.bits .and .u8 (rd x0 x9) 63))) (wrap64 (x9 + 1))))) else (none)) else (none))) else (some (x8, x5, false))
def utf_parse.f (k : Nat) (l0 : List Int) : Option (Int × Int × Bool) := if 0 < (l0.length : Int) then ((utf_lead.f k (rd l0 0)).bind fun bt159 => (if bt159.1 < 2 then (if bt159.1 = 0 then (some (65533, 1, false)) else (some (wrap32 (rd l0 0), 1, false))) else (if 0 ≤ bt159.1 then (utf_parse.l0 k l0 bt159.1 bt159.2.1 bt159.2.2 (Go.bits .and .i32 (wrap32 (rd l0 0)) (shr .i32 127 bt159.1)) 1) else (none)))) else (none)
theorem utf_parse.mono_l : ∀ k, (∀ y0 y1 y2 y3 y4 y5, LeO (utf_parse.l0 k y0 y1 y2 y3 y4 y5) (utf_parse.l0 (k + 1) y0 y1 y2 y3 y4 y5))
  | 0 => fun _ _ _ _ _ _ r h => by simp [utf_parse.l0] at h
  | k + 1 => by
    have ih0 := utf_parse.mono_l k
    · intro y0 y1 y2 y3 y4 y5
      unfold utf_parse.l0
      repeat' first
      | (with_reducible exact ih0 _ _ _ _ _ _)
      | (with_reducible exact utf_lead.mono _ _)
      | (with_reducible exact LeO.refl _)
      | (with_reducible exact LeO.none _)
      | (with_reducible refine LeO.ite ?_ ?_)
      | (with_reducible refine LeO.bind ?_ (fun _ => ?_))
      | exact ih0 _ _ _ _ _ _
      | exact utf_lead.mono _ _
      | exact LeO.none _
      | refine LeO.ite ?_ ?_
      | refine LeO.bind ?_ (fun _ => ?_)
theorem utf_parse.mono : ∀ a0 k, LeO (utf_parse.f k a0) (utf_parse.f (k + 1) a0) := by
  intro a0 k
  have ih0 := utf_parse.mono_l k
  unfold utf_parse.f
  repeat' first
      | (with_reducible exact ih0 _ _ _ _ _ _)
      | (with_reducible exact utf_lead.mono _ _)
      | (with_reducible exact LeO.refl _)
      | (with_reducible exact LeO.none _)
      | (with_reducible refine LeO.ite ?_ ?_)
      | (with_reducible refine LeO.bind ?_ (fun _ => ?_))
      | exact ih0 _ _ _ _ _ _
      | exact utf_lead.mono _ _
      | exact LeO.none _
      | refine LeO.ite ?_ ?_
      | refine LeO.bind ?_ (fun _ => ?_)
set_option maxHeartbeats 8000000 in
set_option maxRecDepth 100000 in
theorem utf_parse.calls (k : Nat) (A0 : Option Addr) (c0 : Nat) (l0 : List Int) (r1 : Int) (r2 : Int) (r3 : Bool) (w : World) (hr0 : Kd.C (Kd.int .u8) w A0 l0.length l0) (hc0 : l0.length ≤ c0) (h : utf_parse.f k l0 = some (r1, r2, r3)) :
    Calls Try.prog 55 #[.slice A0 l0.length c0] w fun e w' => e = .returned (.tuple #[.int .i32 r1, .int .i64 r2, .bool r3]) ∧ Drawn0 w w' := by
  have HR0 := Aside0.mk hr0
  have HC0 := Aside0.mk hc0
  clear hr0 hc0
  have H : (if 0 < (l0.length : Int) then ((utf_lead.f k (rd l0 0)).bind fun bt159 => (if bt159.1 < 2 then (if bt159.1 = 0 then (some (65533, 1, false)) else (some (wrap32 (rd l0 0), 1, false))) else (if 0 ≤ bt159.1 then (utf_parse.l0 k l0 bt159.1 bt159.2.1 bt159.2.2 (Go.bits .and .i32 (wrap32 (rd l0 0)) (shr .i32 127 bt159.1)) 1) else (none)))) else (none)) = some (r1, r2, r3) := h
  clear h
  by_cases c2 : 0 < (l0.length : Int)
  · rw [if_pos c2] at H
    have c2b0 : decide (0 < (l0.length : Int)) = true := decide_eq_true c2
    have c2b1 : decide (0 < l0.length) = true := decide_eq_true (by omega)
    clear c2
    replace H := Option.bind_eq_some_iff.mp H
    obtain ⟨⟨t159, t160, t161⟩, A30, H⟩ := H
    replace H : (if t159 < 2 then (if t159 = 0 then (some (65533, 1, false)) else (some (wrap32 (rd l0 0), 1, false))) else (if 0 ≤ t159 then (utf_parse.l0 k l0 t159 t160 t161 (Go.bits .and .i32 (wrap32 (rd l0 0)) (shr .i32 127 t159)) 1) else (none))) = some (r1, r2, r3) := H
    have A3 := Aside0.mk A30
    clear A30
    by_cases c4 : t159 < 2
    · rw [if_pos c4] at H
      have c4b0 : decide (t159 < 2) = true := decide_eq_true c4
      clear c4
      by_cases c5 : t159 = 0
      · rw [if_pos c5] at H
        have c5b0 : (t159 == 0) = true := beq_iff_eq.mpr c5
        have c5b1 : (t159 != 0) = false := bne_eq_false_iff_eq.mpr c5
        clear c5
        simp only [Option.some.injEq, Prod.mk.injEq] at H
        obtain ⟨rfl, rfl, rfl⟩ := H
        have p158 : 0 ≤ (0 : Int) := (by omega)
        have q158 : 0 < (l0.length : Int) := of_decide_eq_true (by first | (with_reducible assumption) | assumption)
        obtain ⟨ad158, e158, hx158_0⟩ := Kd.at_int HR0.out 0 p158 q158
        cases e158
        have qi158 : (0 < l0.length) = True := eq_true (by omega)
        (try rw [show ((0 : Int)).toNat = 0 from rfl] at hx158_0)
        (try rw [Addr.add_zero'] at hx158_0)
        replace p158 := eq_true p158
        replace q158 := eq_true q158
        go_enter Try.func55, Try.ntmps55
        go_wp2_with (first | (go_at_call 66; (with_reducible refine (utf_lead.calls k (rd l0 0) t159 t160 t161 _ A3.out).mono ?_); rintro e w' ⟨rfl, ⟨nd, rfl⟩⟩; (try first | exact ⟨rfl, _, World.drewN_drewN _ _ _⟩ | exact ⟨rfl, _, Eq.trans (World.drewN_drewN _ _ _) (congrArg (World.drewN _) (Nat.add_assoc _ _ _))⟩)))
        repeat (go_quiet (first | (go_at_call 66; (with_reducible refine (utf_lead.calls k (rd l0 0) t159 t160 t161 _ A3.out).mono ?_); rintro e w' ⟨rfl, ⟨nd, rfl⟩⟩; (try first | exact ⟨rfl, _, World.drewN_drewN _ _ _⟩ | exact ⟨rfl, _, Eq.trans (World.drewN_drewN _ _ _) (congrArg (World.drewN _) (Nat.add_assoc _ _ _))⟩))); try go_wp2_with (first | (go_at_call 66; (with_reducible refine (utf_lead.calls k (rd l0 0) t159 t160 t161 _ A3.out).mono ?_); rintro e w' ⟨rfl, ⟨nd, rfl⟩⟩; (try first | exact ⟨rfl, _, World.drewN_drewN _ _ _⟩ | exact ⟨rfl, _, Eq.trans (World.drewN_drewN _ _ _) (congrArg (World.drewN _) (Nat.add_assoc _ _ _))⟩))))
        go_ret3
        exact ⟨by first | rfl | (simp; done) | (simp [*]; done), by repeat (first | exact Drawn0.refl _ | apply Drawn0.step)⟩
      · rw [if_neg c5] at H
        have c5b0 : (t159 == 0) = false := beq_eq_false_iff_ne.mpr c5
        have c5b1 : (t159 != 0) = true := bne_iff_ne.mpr c5
        simp only [Option.some.injEq, Prod.mk.injEq] at H
        obtain ⟨rfl, rfl, rfl⟩ := H
        have p158 : 0 ≤ (0 : Int) := (by omega)
        have q158 : 0 < (l0.length : Int) := of_decide_eq_true (by first | (with_reducible assumption) | assumption)
        obtain ⟨ad158, e158, hx158_0⟩ := Kd.at_int HR0.out 0 p158 q158
        cases e158
        have qi158 : (0 < l0.length) = True := eq_true (by omega)
        (try rw [show ((0 : Int)).toNat = 0 from rfl] at hx158_0)
        (try rw [Addr.add_zero'] at hx158_0)
        replace p158 := eq_true p158
        replace q158 := eq_true q158
        go_enter Try.func55, Try.ntmps55
        go_wp2_with (first | (go_at_call 66; (with_reducible refine (utf_lead.calls k (rd l0 0) t159 t160 t161 _ A3.out).mono ?_); rintro e w' ⟨rfl, ⟨nd, rfl⟩⟩; (try first | exact ⟨rfl, _, World.drewN_drewN _ _ _⟩ | exact ⟨rfl, _, Eq.trans (World.drewN_drewN _ _ _) (congrArg (World.drewN _) (Nat.add_assoc _ _ _))⟩); have p162 : 0 ≤ (0 : Int) := (by omega); have q162 : 0 < (l0.length : Int) := of_decide_eq_true (by first | (with_reducible assumption) | assumption); obtain ⟨ad162, e162, hx162_0⟩ := Kd.at_int HR0.out 0 p162 q162; obtain rfl : ad158 = ad162 := (by injection e162); have qi162 : (0 < l0.length) = True := eq_true (by omega); (try rw [show ((0 : Int)).toNat = 0 from rfl] at hx162_0); (try rw [Addr.add_zero'] at hx162_0); replace p162 := eq_true p162; replace q162 := eq_true q162))
        repeat (go_quiet (first | (go_at_call 66; (with_reducible refine (utf_lead.calls k (rd l0 0) t159 t160 t161 _ A3.out).mono ?_); rintro e w' ⟨rfl, ⟨nd, rfl⟩⟩; (try first | exact ⟨rfl, _, World.drewN_drewN _ _ _⟩ | exact ⟨rfl, _, Eq.trans (World.drewN_drewN _ _ _) (congrArg (World.drewN _) (Nat.add_assoc _ _ _))⟩); have p162 : 0 ≤ (0 : Int) := (by omega); have q162 : 0 < (l0.length : Int) := of_decide_eq_true (by first | (with_reducible assumption) | assumption); obtain ⟨ad162, e162, hx162_0⟩ := Kd.at_int HR0.out 0 p162 q162; obtain rfl : ad158 = ad162 := (by injection e162); have qi162 : (0 < l0.length) = True := eq_true (by omega); (try rw [show ((0 : Int)).toNat = 0 from rfl] at hx162_0); (try rw [Addr.add_zero'] at hx162_0); replace p162 := eq_true p162; replace q162 := eq_true q162)); try go_wp2_with (first | (go_at_call 66; (with_reducible refine (utf_lead.calls k (rd l0 0) t159 t160 t161 _ A3.out).mono ?_); rintro e w' ⟨rfl, ⟨nd, rfl⟩⟩; (try first | exact ⟨rfl, _, World.drewN_drewN _ _ _⟩ | exact ⟨rfl, _, Eq.trans (World.drewN_drewN _ _ _) (congrArg (World.drewN _) (Nat.add_assoc _ _ _))⟩); have p162 : 0 ≤ (0 : Int) := (by omega); have q162 : 0 < (l0.length : Int) := of_decide_eq_true (by first | (with_reducible assumption) | assumption); obtain ⟨ad162, e162, hx162_0⟩ := Kd.at_int HR0.out 0 p162 q162; obtain rfl : ad158 = ad162 := (by injection e162); have qi162 : (0 < l0.length) = True := eq_true (by omega); (try rw [show ((0 : Int)).toNat = 0 from rfl] at hx162_0); (try rw [Addr.add_zero'] at hx162_0); replace p162 := eq_true p162; replace q162 := eq_true q162)))
        go_ret3
        exact ⟨by first | rfl | (simp; done) | (simp [*]; done), by repeat (first | exact Drawn0.refl _ | apply Drawn0.step)⟩
    · rw [if_neg c4] at H
      have c4b0 : decide (t159 < 2) = false := decide_eq_false c4
      clear c4
      by_cases c6 : 0 ≤ t159
      · rw [if_pos c6] at H
        have c6b0 := eq_true c6
        have c6b1 : decide (0 ≤ t159) = true := decide_eq_true c6
        clear c6
        obtain ⟨ji7, hji7⟩ : ∃ j_ : Int, (shr .i32 127 t159) = j_ := ⟨_, rfl⟩
        replace H : (utf_parse.l0 k l0 t159 t160 t161 (Go.bits .and .i32 (wrap32 (rd l0 0)) (ji7)) 1) = some (r1, r2, r3) := by first | (rw [hji7] at H; exact H) | (simp only [hji7] at H ⊢; exact H)
        (try rw [hji7] at A3)
        have hji7_ : (127 / 2 ^ min t159.toNat 32) = ji7 := hji7
        have hji7z : t159 ≤ 32 → (127 / 2 ^ t159.toNat) = ji7 := shr_small hji7
        have H' := Aside0.mk H
        clear H
        have p158 : 0 ≤ (0 : Int) := (by omega)
        have q158 : 0 < (l0.length : Int) := of_decide_eq_true (by first | (with_reducible assumption) | assumption)
        obtain ⟨ad158, e158, hx158_0⟩ := Kd.at_int HR0.out 0 p158 q158
        cases e158
        have qi158 : (0 < l0.length) = True := eq_true (by omega)
        (try rw [show ((0 : Int)).toNat = 0 from rfl] at hx158_0)
        (try rw [Addr.add_zero'] at hx158_0)
        replace p158 := eq_true p158
        replace q158 := eq_true q158
        go_enter Try.func55, Try.ntmps55
        go_wp2_with (first | (go_at_call 66; (with_reducible refine (utf_lead.calls k (rd l0 0) t159 t160 t161 _ A3.out).mono ?_); rintro e w' ⟨rfl, ⟨nd, rfl⟩⟩; (try first | exact ⟨rfl, _, World.drewN_drewN _ _ _⟩ | exact ⟨rfl, _, Eq.trans (World.drewN_drewN _ _ _) (congrArg (World.drewN _) (Nat.add_assoc _ _ _))⟩); have p163 : 0 ≤ (0 : Int) := (by omega); have q163 : 0 < (l0.length : Int) := of_decide_eq_true (by first | (with_reducible assumption) | assumption); obtain ⟨ad163, e163, hx163_0⟩ := Kd.at_int HR0.out 0 p163 q163; obtain rfl : ad158 = ad163 := (by injection e163); have qi163 : (0 < l0.length) = True := eq_true (by omega); (try rw [show ((0 : Int)).toNat = 0 from rfl] at hx163_0); (try rw [Addr.add_zero'] at hx163_0); replace p163 := eq_true p163; replace q163 := eq_true q163))
        repeat (go_quiet (first | (go_at_call 66; (with_reducible refine (utf_lead.calls k (rd l0 0) t159 t160 t161 _ A3.out).mono ?_); rintro e w' ⟨rfl, ⟨nd, rfl⟩⟩; (try first | exact ⟨rfl, _, World.drewN_drewN _ _ _⟩ | exact ⟨rfl, _, Eq.trans (World.drewN_drewN _ _ _) (congrArg (World.drewN _) (Nat.add_assoc _ _ _))⟩); have p163 : 0 ≤ (0 : Int) := (by omega); have q163 : 0 < (l0.length : Int) := of_decide_eq_true (by first | (with_reducible assumption) | assumption); obtain ⟨ad163, e163, hx163_0⟩ := Kd.at_int HR0.out 0 p163 q163; obtain rfl : ad158 = ad163 := (by injection e163); have qi163 : (0 < l0.length) = True := eq_true (by omega); (try rw [show ((0 : Int)).toNat = 0 from rfl] at hx163_0); (try rw [Addr.add_zero'] at hx163_0); replace p163 := eq_true p163; replace q163 := eq_true q163)); try go_wp2_with (first | (go_at_call 66; (with_reducible refine (utf_lead.calls k (rd l0 0) t159 t160 t161 _ A3.out).mono ?_); rintro e w' ⟨rfl, ⟨nd, rfl⟩⟩; (try first | exact ⟨rfl, _, World.drewN_drewN _ _ _⟩ | exact ⟨rfl, _, Eq.trans (World.drewN_drewN _ _ _) (congrArg (World.drewN _) (Nat.add_assoc _ _ _))⟩); have p163 : 0 ≤ (0 : Int) := (by omega); have q163 : 0 < (l0.length : Int) := of_decide_eq_true (by first | (with_reducible assumption) | assumption); obtain ⟨ad163, e163, hx163_0⟩ := Kd.at_int HR0.out 0 p163 q163; obtain rfl : ad158 = ad163 := (by injection e163); have qi163 : (0 < l0.length) = True := eq_true (by omega); (try rw [show ((0 : Int)).toNat = 0 from rfl] at hx163_0); (try rw [Addr.add_zero'] at hx163_0); replace p163 := eq_true p163; replace q163 := eq_true q163)))
        go_loopg [6, 7, 8, 9] k (fun kq v6 v7 v8 v9 w' => ∃ (x6_1 : Int) (x7_1 : Int) (x8_1 : Int) (x9_1 : Int), v6 = .int .u8 x6_1 ∧ v7 = .int .u8 x7_1 ∧ v8 = .int .i32 x8_1 ∧ v9 = .int .i64 x9_1 ∧ Aside0 (utf_parse.l0 kq l0 t159 x6_1 x7_1 x8_1 x9_1 = some (r1, r2, r3)) ∧ Aside0 (kq ≤ k) ∧ Drawn0 w w')
        case atStart => exact ⟨(t160), (t161), (Go.bits .and .i32 (wrap32 (rd l0 0)) (ji7)), (1), (by first | rfl | (simp; done) | (simp [*]; done)), (by first | rfl | (simp; done) | (simp [*]; done)), (by first | rfl | (simp; done) | (simp only [← hji7] <;> (first | rfl | simp)) | (simp [*]; done)), (by first | rfl | (simp; done) | (simp [*]; done)), H', ⟨Nat.le_refl _⟩, by repeat (first | exact Drawn0.refl _ | apply Drawn0.step)⟩
        case round =>
          clear H'
          try clear p1
          try clear q1
          try clear hx1
          try clear qi1
          try clear c2
          try clear c2b0
          try clear c2b1
          try clear p2
          try clear p3
          try clear c4
          try clear c4b0
          try clear c5
          try clear c5b0
          try clear c5b1
          try clear c6
          try clear c6b0
          try clear c6b1
          try clear hx158_0
          try clear hx162_0
          try clear hx163_0
          try clear p158
          try clear p162
          try clear p163
          try clear q158
          try clear q162
          try clear q163
          obtain ⟨x6_1, x7_1, x8_1, x9_1, rfl, rfl, rfl, rfl, HA, HK1, ⟨m1, rfl⟩⟩ := hrel
          cases gk with
          | zero => exact absurd HA.out (by simp [utf_parse.l0])
          | succ k1 =>
            have H := HA.out
            clear HA
            simp only [utf_parse.l0] at H
            by_cases c8 : x9_1 < t159
            · rw [if_pos c8] at H
              have c8b0 : decide (x9_1 < t159) = true := decide_eq_true c8
              clear c8
              by_cases c9 : x9_1 = (l0.length : Int)
              · rw [if_pos c9] at H
                have c9b0 : (x9_1 == (l0.length : Int)) = true := beq_iff_eq.mpr c9
                have c9b1 : (x9_1 != (l0.length : Int)) = false := bne_eq_false_iff_eq.mpr c9
                clear c9
                simp only [Option.some.injEq, Prod.mk.injEq] at H
                obtain ⟨rfl, rfl, rfl⟩ := H
                go_wp2
                repeat (go_quiet (fail); try go_wp2)
                go_ret3
                exact ⟨by first | rfl | (simp; done) | (simp only [← hji7] <;> (first | rfl | simp)) | (simp [*]; done), by repeat (first | exact Drawn0.refl _ | apply Drawn0.step)⟩
              · rw [if_neg c9] at H
                have c9b0 : (x9_1 == (l0.length : Int)) = false := beq_eq_false_iff_ne.mpr c9
                have c9b1 : (x9_1 != (l0.length : Int)) = true := bne_iff_ne.mpr c9
                by_cases c10 : 0 ≤ x9_1
                · rw [if_pos c10] at H
                  have c10b0 : decide (0 ≤ x9_1) = true := decide_eq_true c10
                  clear c10
                  by_cases c11 : x9_1 < (l0.length : Int)
                  · rw [if_pos c11] at H
                    have c11b0 : decide (x9_1 < (l0.length : Int)) = true := decide_eq_true c11
                    clear c11
                    by_cases c12 : (rd l0 x9_1) < x6_1
                    · rw [if_pos c12] at H
                      have c12b0 : decide ((rd l0 x9_1) < x6_1) = true := decide_eq_true c12
                      clear c12
                      simp only [Option.some.injEq, Prod.mk.injEq] at H
                      obtain ⟨rfl, rfl, rfl⟩ := H
                      have p164 : 0 ≤ (x9_1 : Int) := of_decide_eq_true (by first | (with_reducible assumption) | assumption)
                      have q164 : x9_1 < (l0.length : Int) := of_decide_eq_true (by first | (with_reducible assumption) | assumption)
                      obtain ⟨ad164, e164, hx164_0⟩ := Kd.at_int HR0.out x9_1 p164 q164
                      obtain rfl : ad158 = ad164 := (by injection e164)
                      replace p164 := eq_true p164
                      replace q164 := eq_true q164
                      go_wp2
                      repeat (go_quiet (fail); try go_wp2)
                      go_ret3
                      exact ⟨by first | rfl | (simp; done) | (simp only [← hji7] <;> (first | rfl | simp)) | (simp [*]; done), by repeat (first | exact Drawn0.refl _ | apply Drawn0.step)⟩
                    · rw [if_neg c12] at H
                      have c12b0 : decide ((rd l0 x9_1) < x6_1) = false := decide_eq_false c12
                      clear c12
                      by_cases c13 : (rd l0 x9_1) > x7_1
                      · rw [if_pos c13] at H
                        have c13b0 : decide (x7_1 < (rd l0 x9_1)) = true := decide_eq_true c13
                        clear c13
                        simp only [Option.some.injEq, Prod.mk.injEq] at H
                        obtain ⟨rfl, rfl, rfl⟩ := H
                        have p164 : 0 ≤ (x9_1 : Int) := of_decide_eq_true (by first | (with_reducible assumption) | assumption)
                        have q164 : x9_1 < (l0.length : Int) := of_decide_eq_true (by first | (with_reducible assumption) | assumption)
                        obtain ⟨ad164, e164, hx164_0⟩ := Kd.at_int HR0.out x9_1 p164 q164
                        obtain rfl : ad158 = ad164 := (by injection e164)
                        replace p164 := eq_true p164
                        replace q164 := eq_true q164
                        have p165 : 0 ≤ (x9_1 : Int) := of_decide_eq_true (by first | (with_reducible assumption) | assumption)
                        have q165 : x9_1 < (l0.length : Int) := of_decide_eq_true (by first | (with_reducible assumption) | assumption)
                        obtain ⟨ad165, e165, hx165_0⟩ := Kd.at_int HR0.out x9_1 p165 q165
                        obtain rfl : ad158 = ad165 := (by injection e165)
                        replace p165 := eq_true p165
                        replace q165 := eq_true q165
                        go_wp2
                        repeat (go_quiet (fail); try go_wp2)
                        go_ret3
                        exact ⟨by first | rfl | (simp; done) | (simp only [← hji7] <;> (first | rfl | simp)) | (simp [*]; done), by repeat (first | exact Drawn0.refl _ | apply Drawn0.step)⟩
                      · rw [if_neg c13] at H
                        have c13b0 : decide (x7_1 < (rd l0 x9_1)) = false := decide_eq_false c13
                        clear c13
                        have H' := Aside0.mk H
                        clear H
                        have p164 : 0 ≤ (x9_1 : Int) := of_decide_eq_true (by first | (with_reducible assumption) | assumption)
                        have q164 : x9_1 < (l0.length : Int) := of_decide_eq_true (by first | (with_reducible assumption) | assumption)
                        obtain ⟨ad164, e164, hx164_0⟩ := Kd.at_int HR0.out x9_1 p164 q164
                        obtain rfl : ad158 = ad164 := (by injection e164)
                        replace p164 := eq_true p164
                        replace q164 := eq_true q164
                        have p165 : 0 ≤ (x9_1 : Int) := of_decide_eq_true (by first | (with_reducible assumption) | assumption)
                        have q165 : x9_1 < (l0.length : Int) := of_decide_eq_true (by first | (with_reducible assumption) | assumption)
                        obtain ⟨ad165, e165, hx165_0⟩ := Kd.at_int HR0.out x9_1 p165 q165
                        obtain rfl : ad158 = ad165 := (by injection e165)
                        replace p165 := eq_true p165
                        replace q165 := eq_true q165
                        have p166 : 0 ≤ (x9_1 : Int) := of_decide_eq_true (by first | (with_reducible assumption) | assumption)
                        have q166 : x9_1 < (l0.length : Int) := of_decide_eq_true (by first | (with_reducible assumption) | assumption)
                        obtain ⟨ad166, e166, hx166_0⟩ := Kd.at_int HR0.out x9_1 p166 q166
                        obtain rfl : ad158 = ad166 := (by injection e166)
                        replace p166 := eq_true p166
                        replace q166 := eq_true q166
                        go_wp2
                        repeat (go_quiet (fail); try go_wp2)
                        go_roundg k1
                        case measure => have := HK1.out; omega
                        case rel => exact ⟨(128), (191), (Go.bits .or .i32 (wrap32 (x8_1 * 64)) (wrap32 (Go.bits .and .u8 (rd l0 x9_1) 63))), (wrap64 (x9_1 + 1)), (by first | rfl | (simp; done) | (simp [*]; done)), (by first | rfl | (simp; done) | (simp [*]; done)), (by first | rfl | (simp; done) | (simp [*]; done)), (by first | rfl | (simp; done) | (simp [*]; done)), H', ⟨by have := HK1.out; omega⟩, by repeat (first | exact Drawn0.refl _ | apply Drawn0.step)⟩
                  · rw [if_neg c11] at H
                    exact absurd H (by simp)
                · rw [if_neg c10] at H
                  exact absurd H (by simp)
            · rw [if_neg c8] at H
              have c8b0 : decide (x9_1 < t159) = false := decide_eq_false c8
              clear c8
              simp only [Option.some.injEq, Prod.mk.injEq] at H
              obtain ⟨rfl, rfl, rfl⟩ := H
              go_wp2
              repeat (go_quiet (fail); try go_wp2)
              go_ret3
              exact ⟨by first | rfl | (simp; done) | (simp only [← hji7] <;> (first | rfl | simp)) | (simp [*]; done), by repeat (first | exact Drawn0.refl _ | apply Drawn0.step)⟩
      · rw [if_neg c6] at H
        exact absurd H (by simp)
  · rw [if_neg c2] at H
    exact absurd H (by simp)

/-! ### utf_walk: function 58 -/
def utf_walk.l0 : Nat → List Int → List Int → Option (List Int)
  | 0, _, _ => none
  | k + 1, x0, x3 => if (x0.length : Int) > 0 then ((utf_parse.f k x0).bind fun bt167 => (if bt167.2.2 = true then (if x3.length < 35184372088832 then (some (x3 ++ [65533])) else (none)) else (if x3.length < 35184372088832 then (if 0 ≤ bt167.2.1 then (if bt167.2.1 ≤ (x0.length : Int) then (utf_walk.l0 k (x0.drop (bt167.2.1 : Int).toNat) (x3 ++ [bt167.1])) else (none)) else (none)) else (none)))) else (some x3)
def utf_walk.f (k : Nat) (l0 : List Int) : Option (List Int) := utf_walk.l0 k l0 ([] : List Int)
theorem utf_walk.mono_l : ∀ k, (∀ y0 y1, LeO (utf_walk.l0 k y0 y1) (utf_walk.l0 (k + 1) y0 y1))
  | 0 => fun _ _ r h => by simp [utf_walk.l0] at h
  | k + 1 => by
    have ih0 := utf_walk.mono_l k
    · intro y0 y1
      unfold utf_walk.l0
      repeat' first
      | (with_reducible exact ih0 _ _)
      | (with_reducible exact utf_parse.mono _ _)
      | (with_reducible exact LeO.refl _)
      | (with_reducible exact LeO.none _)
      | (with_reducible refine LeO.ite ?_ ?_)
      | (with_reducible refine LeO.bind ?_ (fun _ => ?_))
      | exact ih0 _ _
      | exact utf_parse.mono _ _
      | exact LeO.none _
      | refine LeO.ite ?_ ?_
      | refine LeO.bind ?_ (fun _ => ?_)
theorem utf_walk.mono : ∀ a0 k, LeO (utf_walk.f k a0) (utf_walk.f (k + 1) a0) := by
  intro a0 k
  have ih0 := utf_walk.mono_l k
  unfold utf_walk.f
  repeat' first
      | (with_reducible exact ih0 _ _)
      | (with_reducible exact utf_parse.mono _ _)
      | (with_reducible exact LeO.refl _)
      | (with_reducible exact LeO.none _)
      | (with_reducible refine LeO.ite ?_ ?_)
      | (with_reducible refine LeO.bind ?_ (fun _ => ?_))
      | exact ih0 _ _
      | exact utf_parse.mono _ _
      | exact LeO.none _
      | refine LeO.ite ?_ ?_
      | refine LeO.bind ?_ (fun _ => ?_)
def utf_walk.T6 : Bool × List (List Nat × List Nat) := (true, [([], []), ([], []), ([1], [1]), ([0, 2], [0, 2]), ([], []), ([], []), ([4, 5], [4, 5]), ([3, 3, 0, 1, 2, 3], [0, 3]), ([6, 7, 0, 1, 2, 3, 4, 5, 6, 7], [4, 6])])
def utf_walk.B6 : List Nat := [0, 0, 2, 7, 0, 0, 48, 15, 255]
theorem utf_walk.tab6 : rtab .any (opsOf Try.f58 6) = utf_walk.T6 := by kernel_rfl
theorem utf_walk.bits6 : waitsOk utf_walk.T6.2 utf_walk.B6 = true := by kernel_rfl
set_option maxHeartbeats 8000000 in
set_option maxRecDepth 100000 in
theorem utf_walk.calls (k : Nat) (P0_ : Nat → Prop) (A0 : Option Addr) (c0 : Nat) (l0 : List Int) (r : List Int) (w : World) (hs0 : Kd.V (Kd.int .u8) 5 w w.heap.size (fun k_ => P0_ k_) (.slice A0 l0.length c0) l0) (h : utf_walk.f k l0 = some r) :
    Calls Try.prog 58 #[.slice A0 l0.length c0] w fun e w' => ∃ v0_ : Value, e = .returned (v0_) ∧ Kd.R (Kd.int .i32) 21 w' w.heap.size (fun k_ => (w.heap.size ≤ k_)) v0_ r ∧ Below w.heap.size w w' := by
  have HO0 := Aside0.mk (show Kd.V (Kd.int .u8) 5 w w.heap.size (fun k_ => (P0_ k_ ∨ w.heap.size ≤ k_)) (.slice A0 l0.length c0) l0 from Kd.V_mono hs0 (fun k_ hk => .inl hk))
  have HB := Aside0.mk (Below.refl w.heap.size w)
  have H : (utf_walk.l0 k l0 ([] : List Int)) = some r := h
  clear h
  have H' := Aside0.mk H
  clear H
  go_enter Try.func58, Try.ntmps58
  go_wp2
  go_loopg [0, 3] k (fun kq v0 v3 w' => ∃ (x0_1 : List Int) (x3_1 : List Int), Aside0 (utf_walk.l0 kq x0_1 x3_1 = some r) ∧ Aside0 (kq ≤ k) ∧ Aside0 (Kd.V (Kd.int .u8) 5 w' w.heap.size (fun k_ => (P0_ k_ ∨ w.heap.size ≤ k_) ∧ some k_ ≠ (v3 : Value).ownBlock) v0 x0_1) ∧ Aside0 (Kd.R (Kd.int .i32) 21 w' w.heap.size (fun k_ => (w.heap.size ≤ k_)) v3 x3_1) ∧ Aside0 (Below w.heap.size w w'))
  case atStart => exact ⟨(l0), (([] : List Int)), H', ⟨Nat.le_refl _⟩, ⟨by (with_reducible repeat (first | apply Kd.V_alloc | apply Kd.V_drewN | apply Kd.V_drew)); exact Kd.V_mono HO0.out (fun _ hk => ⟨hk, (by simp [Value.ownBlock])⟩)⟩, ⟨by first | exact Kd.R_nil _ _ _ _ _ | exact Kd.N_nil _ _ _ _ _ | exact Kd.V_nil _ _ _ _ _ | exact Kd.Q_nil _ _ _ _ _ | exact Kd.S_nil _ _ _ _ _⟩, ⟨by repeat (first | (with_reducible first | exact HB.out | apply below_alloc | apply pw_below_drewN | apply below_drew1) | exact HB.out)⟩⟩
  case round =>
    clear H'
    obtain ⟨x0_1, x3_1, HA, HK1, HO_0, HO_3, HB⟩ := hrel
    cases gk with
    | zero => exact absurd HA.out (by simp [utf_walk.l0])
    | succ k1 =>
      have H := HA.out
      clear HA
      simp only [utf_walk.l0] at H
      by_cases c2 : (x0_1.length : Int) > 0
      · rw [if_pos c2] at H
        have c2b0 : decide (0 < (x0_1.length : Int)) = true := decide_eq_true c2
        have c2b1 : decide (0 < x0_1.length) = true := decide_eq_true (by omega)
        clear c2
        replace H := Option.bind_eq_some_iff.mp H
        obtain ⟨⟨t167, t168, t169⟩, A30, H⟩ := H
        replace H : (if t169 = true then (if x3_1.length < 35184372088832 then (some (x3_1 ++ [65533])) else (none)) else (if x3_1.length < 35184372088832 then (if 0 ≤ t168 then (if t168 ≤ (x0_1.length : Int) then (utf_walk.l0 k1 (x0_1.drop (t168 : Int).toNat) (x3_1 ++ [t167])) else (none)) else (none)) else (none))) = some r := H
        have A3 := Aside0.mk A30
        clear A30
        by_cases c4 : t169 = true
        · subst c4
          have H1 : (if x3_1.length < 35184372088832 then (some (x3_1 ++ [65533])) else (none)) = some r := by rw [if_pos rfl] at H; exact H
          clear H
          have H := H1
          clear H1
          by_cases c5 : x3_1.length < 35184372088832
          · rw [if_pos c5] at H
            have LMc5 := Aside0.mk c5
            clear c5
            obtain ⟨y170, hy170⟩ : ∃ y_ : List Int, y_ = (x3_1 ++ [65533]) := ⟨_, rfl⟩
            replace H : (some y170) = some r := by first | (rw [hy170]; with_reducible exact H) | (have H2_ := (Option.bind_some _ _).symm.trans H; rw [hy170]; with_reducible exact H2_) | (have H2_ := (Option.bind_some _ _).symm.trans H; with_reducible exact H2_) | with_reducible exact H | (rw [hy170]; exact H) | exact H
            have Ny170 := Aside0.mk hy170
            clear hy170
            obtain rfl := Option.some.inj H
            obtain ⟨Ao6, co6, eo6⟩ := Kd.V_slice HO_0.out
            subst eo6
            go_wp2_with (first | ((with_reducible refine gate_callee (f := 55) rfl ?_); refine goesL_ (some 12) rfl rfl Try.func55 (by kernel_rfl) rfl #[.slice Ao6 x0_1.length co6] rfl (by (try simp only [List.map_toArray, List.map_cons, List.map_nil]); first | done | rfl | (simp only [List.length_drop, List.length_take]; rfl)) ?_; (with_reducible refine (utf_parse.calls k1 _ _ x0_1 t167 t168 true _ ?side1 ?side2 A3.out).mono ?_); (case side1 => repeat (first | exact (Kd.V_reads' HO_0.out).2.2 | (with_reducible refine Kd.C_alloc ?_ _) | (with_reducible refine Kd.C_drewN ?_ _) | (with_reducible refine Kd.C_drew ?_))); (case side2 => exact (Kd.V_reads' HO_0.out).2.1); rintro e w' ⟨rfl, ⟨nd, rfl⟩⟩; refine ⟨_, rfl, ?_⟩) | ((with_reducible refine gate_builtin (b := .append) (xs := #[.tmp 17, .tmp 18]) rfl ?_); at_builtin; refine Kd.R_append (Kd.int .i32) (w0 := w) w.heap.size rfl (.tmp 17) (.tmp 18) 31 21 (.int .i32 0) 4 rfl Try.underlying31 info21 rfl (by decide) (by omega) u3 x3_1 65533 [.int .i32 65533] (fun k_ => (w.heap.size ≤ k_)) (fun _ => False) rfl rfl ?aP (fun _ hk => hk.elim) ?aF ?aO ?aB ?aS ?aL ?_; (case aP => exact rfl); (case aB => exact (by repeat (first | (with_reducible first | exact HB.out | apply below_alloc | apply pw_below_drewN | apply below_drew1) | exact HB.out))); (case aF => exact (fun k_ hk => (Nat.le_trans (below_size (by repeat (first | (with_reducible first | exact HB.out | apply below_alloc | apply pw_below_drewN | apply below_drew1) | exact HB.out))) hk))); (case aO => exact (by (with_reducible repeat (first | apply Kd.R_alloc | apply Kd.R_drewN | apply Kd.R_drew)); exact HO_3.out)); (case aS => exact (below_size (by repeat (first | (with_reducible first | exact HB.out | apply below_alloc | apply pw_below_drewN | apply below_drew1) | exact HB.out)))); (case aL => have := LMc5.out; omega); intro v171 w7 ho hb hg hat; rw [← Ny170.out] at ho; have n0_ := Aside0.mk (Kd.V_afterv (ok := (fun k_ => (P0_ k_ ∨ w.heap.size ≤ k_))) (by (with_reducible repeat (first | apply Kd.V_alloc | apply Kd.V_drewN | apply Kd.V_drew)); exact HO_0.out) hg hat); have n1_ := Aside0.mk (hb); have n2_ := Aside0.mk (ho); clear HO_0; clear HB; clear HO_3; have HO_0 := n0_; have HB := n1_; have HO172 := n2_; clear n0_ n1_ n2_; clear ho hb hg hat))
            go_ret
            exact ⟨_, by first | rfl | (simp [errW_none, errW_some] <;> rfl) | (simp [*, errW_none, errW_some] <;> rfl), by (with_reducible repeat (first | apply Kd.R_alloc | apply Kd.R_drewN | apply Kd.R_drew)); exact HO172.out, by repeat (first | (with_reducible first | exact HB.out | apply below_alloc | apply pw_below_drewN | apply below_drew1) | exact HB.out)⟩
          · rw [if_neg c5] at H
            exact absurd H (by simp)
        · replace c4 := Bool.eq_false_iff.mpr c4
          subst c4
          have H1 : (if x3_1.length < 35184372088832 then (if 0 ≤ t168 then (if t168 ≤ (x0_1.length : Int) then (utf_walk.l0 k1 (x0_1.drop (t168 : Int).toNat) (x3_1 ++ [t167])) else (none)) else (none)) else (none)) = some r := by rw [if_neg (show ¬ (false = true) by decide)] at H; exact H
          clear H
          have H := H1
          clear H1
          by_cases c8 : x3_1.length < 35184372088832
          · rw [if_pos c8] at H
            have LMc8 := Aside0.mk c8
            clear c8
            obtain ⟨y173, hy173⟩ : ∃ y_ : List Int, y_ = (x3_1 ++ [t167]) := ⟨_, rfl⟩
            replace H : (if 0 ≤ t168 then (if t168 ≤ (x0_1.length : Int) then (utf_walk.l0 k1 (x0_1.drop (t168 : Int).toNat) y173) else (none)) else (none)) = some r := by first | (rw [hy173]; with_reducible exact H) | (have H2_ := (Option.bind_some _ _).symm.trans H; rw [hy173]; with_reducible exact H2_) | (have H2_ := (Option.bind_some _ _).symm.trans H; with_reducible exact H2_) | with_reducible exact H | (rw [hy173]; exact H) | exact H
            have Ny173 := Aside0.mk hy173
            clear hy173
            by_cases c9 : 0 ≤ t168
            · rw [if_pos c9] at H
              have c9b0 := eq_true c9
              have c9b1 : decide (0 ≤ t168) = true := decide_eq_true c9
              clear c9
              by_cases c10 : t168 ≤ (x0_1.length : Int)
              · rw [if_pos c10] at H
                have c10b0 := eq_true c10
                have c10b1 : decide (t168 ≤ (x0_1.length : Int)) = true := decide_eq_true c10
                clear c10
                obtain ⟨y176, hy176⟩ : ∃ y_ : List Int, y_ = (x0_1.drop (t168 : Int).toNat) := ⟨_, rfl⟩
                replace H : (utf_walk.l0 k1 y176 y173) = some r := by first | (rw [hy176]; with_reducible exact H) | (have H2_ := (Option.bind_some _ _).symm.trans H; rw [hy176]; with_reducible exact H2_) | (have H2_ := (Option.bind_some _ _).symm.trans H; with_reducible exact H2_) | with_reducible exact H | (rw [hy176]; exact H) | exact H
                have Ny176 := Aside0.mk hy176
                clear hy176
                have H' := Aside0.mk H
                clear H
                obtain ⟨Ao11, co11, eo11⟩ := Kd.V_slice HO_0.out
                subst eo11
                try go_wp2_with (first | ((with_reducible refine gate_callee (f := 55) rfl ?_); refine goesL_ (some 12) rfl rfl Try.func55 (by kernel_rfl) rfl #[.slice Ao11 x0_1.length co11] rfl (by (try simp only [List.map_toArray, List.map_cons, List.map_nil]); first | done | rfl | (simp only [List.length_drop, List.length_take]; rfl)) ?_; (with_reducible refine (utf_parse.calls k1 _ _ x0_1 t167 t168 false _ ?side1 ?side2 A3.out).mono ?_); (case side1 => repeat (first | exact (Kd.V_reads' HO_0.out).2.2 | (with_reducible refine Kd.C_alloc ?_ _) | (with_reducible refine Kd.C_drewN ?_ _) | (with_reducible refine Kd.C_drew ?_))); (case side2 => exact (Kd.V_reads' HO_0.out).2.1); rintro e w' ⟨rfl, ⟨nd, rfl⟩⟩; refine ⟨_, rfl, ?_⟩))
                (try (rw [drewN_self wr]; generalize hq_ : World.drewN wr _ = wr; have n0_ : Aside0 (Kd.V (Kd.int .u8) 5 wr w.heap.size (fun k_ => (P0_ k_ ∨ w.heap.size ≤ k_) ∧ some k_ ≠ (u3 : Value).ownBlock) (.slice Ao11 x0_1.length co11) x0_1) := ⟨by rw [← hq_]; exact (by (with_reducible repeat (first | apply Kd.V_alloc | apply Kd.V_drewN | apply Kd.V_drew)); exact HO_0.out)⟩; have n1_ : Aside0 (Kd.R (Kd.int .i32) 21 wr w.heap.size (fun k_ => (w.heap.size ≤ k_)) u3 x3_1) := ⟨by rw [← hq_]; exact (by (with_reducible repeat (first | apply Kd.R_alloc | apply Kd.R_drewN | apply Kd.R_drew)); exact HO_3.out)⟩; have n2_ : Aside0 (Below w.heap.size w wr) := ⟨by rw [← hq_]; exact (by repeat (first | (with_reducible first | exact HB.out | apply below_alloc | apply pw_below_drewN | apply below_drew1) | exact HB.out))⟩; clear HO_0 HO_3 HB hq_; have HO_0 := n0_; have HO_3 := n1_; have HB := n2_; clear n0_ n1_ n2_))
                have n0_ := Aside0.mk (Kd.V_drew HO_0.out)
                have n1_ := Aside0.mk (Kd.R_drew HO_3.out)
                have n2_ := Aside0.mk (below_drew1 HB.out)
                clear HO_0
                clear HO_3
                clear HB
                have HO_0 := n0_
                have HO_3 := n1_
                have HB := n2_
                clear n0_ n1_ n2_
                have q13 : (t168 : Int) ≤ ((x0_1.length : Int) : Int) := of_decide_eq_true (by first | (with_reducible assumption) | assumption)
                obtain ⟨i013, hi013, _, hsz13, _⟩ := info_parts info5
                have hroom13 : x0_1.length ≤ co11 := (Kd.V_reads' HO_0.out).2.1
                have hC13 : Kd.F (Kd.int .u8) _ _ Ao11 x0_1.length x0_1 := (Kd.V_at (base := w.heap.size) HO_0.out).2.2
                have q013 : (0 : Int) ≤ (t168 : Int) := of_decide_eq_true (by first | (with_reducible assumption) | assumption)
                have hcut13 := cut_from (P := Try.prog) 22 5 .i64 Try.underlying22 hi013 1 hsz13 Ao11 x0_1.length co11 t168 q013 q13
                have hr13 := Kd.F_cut (m := (t168 : Int).toNat) (c := co11) hC13 (by omega) hroom13
                obtain ⟨A13, hA13⟩ : ∃ A1, A1 = (if co11 = (t168 : Int).toNat then Ao11 else (Ao11 : Option Addr).map (·.add ((t168 : Int).toNat * 1))) := ⟨_, rfl⟩
                obtain ⟨c13, hc13⟩ : ∃ c1, c1 = co11 - (t168 : Int).toNat := ⟨_, rfl⟩
                have hy13 : y176.length = x0_1.length - (t168 : Int).toNat := (by rw [Ny176.out, List.length_drop] <;> omega)
                rw [show (x0_1).drop (t168 : Int).toNat = y176 from Ny176.out.symm] at hr13
                replace hr13 : Kd.F (Kd.int .u8) _ _ A13 y176.length y176 := (by rw [hA13]; exact hr13)
                rw [← hy13, ← hA13, ← hc13] at hcut13
                have HO180 := Aside0.mk (show Kd.V (Kd.int .u8) 5 _ w.heap.size _ (.slice A13 y176.length c13) y176 from Kd.V_mk (by rw [hy13, hc13]; exact Nat.sub_le_sub_right hroom13 _) hr13)
                have HC180 := Aside0.mk (show y176.length ≤ c13 from by rw [hy13, hc13]; exact Nat.sub_le_sub_right hroom13 _)
                clear hr13 hC13 hroom13 hi013 hsz13 hc13
                have KY13 := Aside0.mk hy13
                have KA13 := Aside0.mk hA13
                clear hy13 hA13
                replace q13 := eq_true q13
                refine start_ (n := 9) (S := fun w' => True) (ds := []) #[false, false, false, false, false, false, false, false, false] (by kernel_rfl) rfl rfl trivial (fun hHeld => ?_); refine with_tabW utf_walk.tab6 utf_walk.bits6 (fun HT_ HW_ => ?_)
                generalize wr.drew = w12 at HO_0 HO_3 HB HO180 hHeld ⊢
                refine pure_ (i := 0) (N := some 20) (v := ?_) (a' := ?_) #[true, false, false, false, false, false, false, false, false] rfl rfl (any_of HT_.out (by kernel_rfl)) (fun _ _ _ h => h) (Or.inl ⟨by rfl, ?_⟩) ?_ ?_
                rotate_left
                · intro w'
                  go_simp
                  with_reducible rfl
                rotate_left
                · simp only [Act.put, List.setIfInBounds_toArray, List.set_cons_zero, List.set_cons_succ, i64_w, i32_w]
                  rfl
                refine pure_ (i := 1) (N := some 21) (v := ?_) (a' := ?_) #[true, true, false, false, false, false, false, false, false] rfl rfl (any_of HT_.out (by kernel_rfl)) (fun _ _ _ h => h) (Or.inl ⟨by rfl, ?_⟩) ?_ ?_
                rotate_left
                · intro w'
                  go_simp
                  with_reducible rfl
                rotate_left
                · simp only [Act.put, List.setIfInBounds_toArray, List.set_cons_zero, List.set_cons_succ, i64_w, i32_w]
                  rfl
                refine pure_ (i := 4) (N := some 24) (v := ?_) (a' := ?_) #[true, true, false, false, true, false, false, false, false] rfl rfl (any_of HT_.out (by kernel_rfl)) (fun _ _ _ h => h) (Or.inl ⟨by rfl, ?_⟩) ?_ ?_
                rotate_left
                · intro w'
                  go_simp
                  with_reducible rfl
                rotate_left
                · simp only [Act.put, List.setIfInBounds_toArray, List.set_cons_zero, List.set_cons_succ, i64_w, i32_w]
                  rfl
                refine pure_ (i := 5) (N := some 25) (v := ?_) (a' := ?_) #[true, true, false, false, true, true, false, false, false] rfl rfl (any_of HT_.out (by kernel_rfl)) (fun _ _ _ h => h) (Or.inl ⟨by rfl, ?_⟩) ?_ ?_
                rotate_left
                · intro w'
                  go_simp
                  with_reducible rfl
                rotate_left
                · simp only [Act.put, List.setIfInBounds_toArray, List.set_cons_zero, List.set_cons_succ, i64_w, i32_w]
                  rfl
                refine pure_ (i := 6) (N := some 26) (v := ?_) (a' := ?_) #[true, true, false, false, true, true, true, false, false] rfl rfl (any_of HT_.out (by kernel_rfl)) (fun _ _ _ h => h) (Or.inl ⟨by rfl, ?_⟩) ?_ ?_
                rotate_left
                · intro w'
                  go_simp
                  with_reducible rfl
                rotate_left
                · simp only [Act.put, List.setIfInBounds_toArray, List.set_cons_zero, List.set_cons_succ, i64_w, i32_w]
                  rfl
                refine one_ (i := 2) (N := some 22) #[true, true, true, false, true, true, true, false, false] rfl rfl (one_of HT_.out (by kernel_rfl)) (by decide) (fun K hK => ?_)
                refine value_ (w1 := ?_) (v := ?_) (by rfl) rfl ?_ ?_
                rotate_left 2
                · go_simp
                  constructor
                  · rfl
                  · rfl
                refine hK.out _ _ trivial (fun hHeld => ?_)
                clear hK K
                refine norm_ (a' := ?_) ?_ ?_
                rotate_left
                · show Act.put _ (some 22) _ = _
                  simp only [Act.put, List.setIfInBounds_toArray, List.set_cons_zero, List.set_cons_succ, i64_w, i32_w]
                  rfl
                refine one_ (i := 3) (N := some 23) #[true, true, true, true, true, true, true, false, false] rfl rfl (one_of HT_.out (by kernel_rfl)) (by decide) (fun K hK => ?_)
                refine Kd.R_append_step (Kd.int .i32) (w0 := w) w.heap.size (by rfl) (.tmp 20) (.tmp 22) 31 21 (.int .i32 0) 4 rfl Try.underlying31 info21 rfl (by decide) (by omega) u3 x3_1 t167 [.int .i32 t167] (fun k_ => (w.heap.size ≤ k_)) (fun _ => False) rfl rfl ?aP (fun _ hk => hk.elim) ?aF ?aO ?aB ?aS ?aL ?_
                (case aP => exact rfl)
                (case aB => exact (by repeat (first | (with_reducible first | exact HB.out | apply below_alloc | apply pw_below_drewN | apply below_drew1) | exact HB.out)))
                (case aF => exact (fun k_ hk => (Nat.le_trans (below_size (by repeat (first | (with_reducible first | exact HB.out | apply below_alloc | apply pw_below_drewN | apply below_drew1) | exact HB.out))) hk)))
                (case aO => exact (by (with_reducible repeat (first | apply Kd.R_alloc | apply Kd.R_drewN | apply Kd.R_drew)); exact HO_3.out))
                (case aS => exact (below_size (by repeat (first | (with_reducible first | exact HB.out | apply below_alloc | apply pw_below_drewN | apply below_drew1) | exact HB.out))))
                (case aL => have := LMc8.out; omega)
                intro v174 w14 ho hb hg hat
                rw [← Ny173.out] at ho
                have n0_ := Aside0.mk (Kd.V_afterv (ok := (fun k_ => (P0_ k_ ∨ w.heap.size ≤ k_))) (by (with_reducible repeat (first | apply Kd.V_alloc | apply Kd.V_drewN | apply Kd.V_drew)); exact HO_0.out) hg hat)
                have n1_ := Aside0.mk (Kd.V_afterv (ok := (fun k_ => (P0_ k_ ∨ w.heap.size ≤ k_))) (by (with_reducible repeat (first | apply Kd.V_alloc | apply Kd.V_drewN | apply Kd.V_drew)); exact HO180.out) hg hat)
                have n2_ := Aside0.mk (hb)
                have n3_ := Aside0.mk (ho)
                clear HO_0
                clear HO180
                clear HB
                clear HO_3
                have HO_0 := n0_
                have HO180 := n1_
                have HB := n2_
                have HO175 := n3_
                clear n0_ n1_ n2_ n3_
                clear ho hb hg hat
                refine hK.out _ _ trivial (fun hHeld => ?_)
                clear hK K
                refine norm_ (a' := ?_) ?_ ?_
                rotate_left
                · show Act.put _ (some 23) _ = _
                  simp only [Act.put, List.setIfInBounds_toArray, List.set_cons_zero, List.set_cons_succ, i64_w, i32_w]
                  rfl
                refine pure_ (i := 7) (N := some 3) (v := ?_) (a' := ?_) #[true, true, true, true, true, true, true, true, false] rfl rfl (any_of HT_.out (by kernel_rfl)) (fun _ _ _ h => h) (Or.inl ⟨by rfl, ?_⟩) ?_ ?_
                rotate_left
                · intro w'
                  go_simp
                  with_reducible rfl
                rotate_left
                · simp only [Act.put, List.setIfInBounds_toArray, List.set_cons_zero, List.set_cons_succ, i64_w, i32_w]
                  rfl
                refine pure_ (i := 8) (N := some 0) (v := ?_) (a' := ?_) #[true, true, true, true, true, true, true, true, true] rfl rfl (any_of HT_.out (by kernel_rfl)) (fun _ _ _ h => h) (Or.inl ⟨by rfl, ?_⟩) ?_ ?_
                rotate_left
                · intro w'
                  go_simp
                  with_reducible rfl
                rotate_left
                · simp only [Act.put, List.setIfInBounds_toArray, List.set_cons_zero, List.set_cons_succ, i64_w, i32_w]
                  rfl
                refine done_ (done_of HT_.out (by kernel_rfl)) ?_
                try go_wp2
                go_roundg k1
                case measure => have := HK1.out; omega
                case rel => exact ⟨(y176), (y173), H', ⟨by have := HK1.out; omega⟩, ⟨by (with_reducible repeat (first | apply Kd.V_alloc | apply Kd.V_drewN | apply Kd.V_drew)); exact HO180.out⟩, ⟨by (with_reducible repeat (first | apply Kd.R_alloc | apply Kd.R_drewN | apply Kd.R_drew)); exact HO175.out⟩, ⟨by repeat (first | (with_reducible first | exact HB.out | apply below_alloc | apply pw_below_drewN | apply below_drew1) | exact HB.out)⟩⟩
              · rw [if_neg c10] at H
                exact absurd H (by simp)
            · rw [if_neg c9] at H
              exact absurd H (by simp)
          · rw [if_neg c8] at H
            exact absurd H (by simp)
      · rw [if_neg c2] at H
        have c2b0 : decide (0 < (x0_1.length : Int)) = false := decide_eq_false c2
        have c2b1 : decide (0 < x0_1.length) = false := decide_eq_false (by omega)
        clear c2
        obtain rfl := Option.some.inj H
        obtain ⟨Ao15, co15, eo15⟩ := Kd.V_slice HO_0.out
        subst eo15
        go_wp2
        go_ret
        exact ⟨_, by first | rfl | (simp [errW_none, errW_some] <;> rfl) | (simp [*, errW_none, errW_some] <;> rfl), by (with_reducible repeat (first | apply Kd.R_alloc | apply Kd.R_drewN | apply Kd.R_drew)); exact HO_3.out, by repeat (first | (with_reducible first | exact HB.out | apply below_alloc | apply pw_below_drewN | apply below_drew1) | exact HB.out)⟩

theorem p_lead (a : Int) (h : 194 ≤ a ∧ a ≤ 244) (k : Nat) (hk : 3 ≤ k) : ∃ n lo hi, utf_lead.f k a = some (n, lo, hi) ∧ n = (if a < 224 then 2 else if a < 240 then 3 else 4) ∧ 128 ≤ lo ∧ hi ≤ 191 ∧ ∀ b, two a b = (decide (lo ≤ b) && decide (b ≤ hi)) := by
  obtain ⟨k, rfl⟩ : ∃ m, k = m + 2 := ⟨k - 2, by omega⟩
  unfold utf_lead.f
  rw [if_neg (by omega), if_neg (by omega), show decide (a > 244) = false by simp; omega, utf_lead.j0, if_neg (by simp)]
  by_cases h1 : a < 224
  · rw [if_pos h1]
    refine ⟨2, 128, 191, rfl, by rw [if_pos h1], by omega, by omega, fun b => ?_⟩
    unfold two cont; rw [if_neg (by omega), if_pos h1, Bool.eq_iff_iff]; simp
  · rw [if_neg h1]
    by_cases h2 : a = 224
    · rw [if_pos h2]
      refine ⟨3, 160, 191, rfl, by rw [if_neg h1, if_pos (by omega)], by omega, by omega, fun b => ?_⟩
      unfold two cont; rw [if_neg (by omega), if_neg h1, if_pos h2, Bool.eq_iff_iff]; simp
    · rw [if_neg h2]
      by_cases h3 : a = 237
      · rw [if_pos h3]
        refine ⟨3, 128, 159, rfl, by rw [if_neg h1, if_pos (by omega)], by omega, by omega, fun b => ?_⟩
        unfold two cont; rw [if_neg (by omega), if_neg h1, if_neg h2, if_pos h3, Bool.eq_iff_iff]; simp
      · rw [if_neg h3]
        by_cases h4 : a = 240
        · rw [if_pos h4]
          refine ⟨4, 144, 191, rfl, by rw [if_neg h1, if_neg (by omega)], by omega, by omega, fun b => ?_⟩
          unfold two cont; rw [if_neg (by omega), if_neg h1, if_neg h2, if_neg h3, if_neg (by omega), if_pos h4, Bool.eq_iff_iff]; simp
        · rw [if_neg h4]
          by_cases h5 : a < 240
          · refine ⟨3, 128, 191, ?_, by rw [if_neg h1, if_pos h5], by omega, by omega, fun b => ?_⟩
            · rw [if_neg (by omega), if_neg (by omega), utf_lead.j1, if_neg (by simp; omega), if_neg (by omega)]
            · unfold two cont; rw [if_neg (by omega), if_neg h1, if_neg h2, if_neg h3, if_pos h5, Bool.eq_iff_iff]; simp
          · by_cases h6 : a < 244
            · refine ⟨4, 128, 191, ?_, by rw [if_neg h1, if_neg h5], by omega, by omega, fun b => ?_⟩
              · have h7 : a = 241 ∨ a = 242 ∨ a = 243 := by omega
                rcases h7 with rfl | rfl | rfl
                · rw [if_pos rfl, utf_lead.j1, if_pos (by simp)]
                · rw [if_neg (by omega), if_pos rfl, utf_lead.j1, if_pos (by simp)]
                · rw [if_neg (by omega), if_neg (by omega), utf_lead.j1, if_pos (by simp)]
              · unfold two cont; rw [if_neg (by omega), if_neg h1, if_neg h2, if_neg h3, if_neg h5, if_neg h4, if_pos h6, Bool.eq_iff_iff]; simp
            · refine ⟨4, 128, 143, ?_, by rw [if_neg h1, if_neg h5], by omega, by omega, fun b => ?_⟩
              · rw [if_neg (by omega), if_neg (by omega), utf_lead.j1, if_neg (by simp; omega), if_pos (by omega)]
              · unfold two cont; rw [if_neg (by omega), if_neg h1, if_neg h2, if_neg h3, if_neg h5, if_neg h4, if_neg h6, if_pos (by omega), Bool.eq_iff_iff]; simp
theorem p_w64 {x : Int} (h0 : -9223372036854775808 ≤ x) (h1 : x < 9223372036854775808) : wrap64 x = x := by unfold wrap64; omega
/-- One round of the program's parse: at the end; out of the bounds; on. -/
theorem p_end (k : Nat) (l : List Int) (n lo hi r : Int) (i : Nat) (h : (i : Int) < n) (hi2 : i = l.length) : utf_parse.l0 (k + 1) l n lo hi r (i : Int) = some (0, 0, true) := by
  rw [utf_parse.l0, if_pos h, if_pos (by omega)]
theorem p_bad (k : Nat) (l : List Int) (n lo hi r : Int) (i : Nat) (h : (i : Int) < n) (hi2 : i < l.length) (hb : (decide (lo ≤ rd l i) && decide (rd l i ≤ hi)) = false) : utf_parse.l0 (k + 1) l n lo hi r (i : Int) = some (65533, (i : Int), false) := by
  rw [utf_parse.l0, if_pos h, if_neg (by omega), if_pos (by omega), if_pos (by omega)]
  by_cases h1 : rd l i < lo
  · rw [if_pos h1]
  · rw [if_neg h1]
    by_cases h2 : rd l i > hi
    · rw [if_pos h2]
    · simp at hb; omega
theorem p_on (k : Nat) (l : List Int) (n lo hi r : Int) (i : Nat) (h : (i : Int) < n) (hi2 : i < l.length) (hb : lo ≤ rd l i ∧ rd l i ≤ hi) (h8 : 128 ≤ rd l i ∧ rd l i ≤ 191) (hr : 0 ≤ r ∧ r ≤ 100000) (hn : n ≤ 4) : utf_parse.l0 (k + 1) l n lo hi r (i : Int) = utf_parse.l0 k l n 128 191 (r * 64 + (rd l i - 128)) ((i + 1 : Nat) : Int) := by
  rw [utf_parse.l0, if_pos h, if_neg (by omega), if_pos (by omega), if_pos (by omega), if_neg (by omega), if_neg (by omega), and63 (by omega), w32 (x := r * 64) (by omega) (by omega), w32 (x := rd l i % 64) (by omega) (by omega), or64 (by omega) (by omega), p_w64 (by omega) (by omega), show rd l (i : Int) % 64 = rd l (i : Int) - 128 by omega, show (i : Int) + 1 = ((i + 1 : Nat) : Int) by omega]
theorem p_fin (k : Nat) (l : List Int) (n lo hi r : Int) (i : Nat) (h : n = (i : Int)) : utf_parse.l0 (k + 1) l n lo hi r (i : Int) = some (r, n, false) := by
  rw [utf_parse.l0, if_neg (by omega)]
theorem p_parse (l : List Int) (h8 : In8u l) (hne : l ≠ []) (k : Nat) (hk : 10 ≤ k) : utf_parse.f k l = some (parseZ l) := by
  obtain ⟨k, rfl⟩ : ∃ m, k = m + 5 := ⟨k - 5, by omega⟩
  match l, hne with
  | a :: t, _ =>
    have ha := h8 a (by simp)
    have r0 : rd (a :: t) 0 = a := rfl
    unfold utf_parse.f
    rw [if_pos (by first | (simp; done) | (simp; omega)), r0]
    simp only [parseZ]
    by_cases h1 : a < 128
    · rw [if_pos h1, show utf_lead.f (k + 5) a = some (1, 128, 191) by unfold utf_lead.f; rw [if_pos h1]]
      simp only [Option.bind_some]
      rw [if_pos (by omega), if_neg (by omega), w32 (by omega) (by omega)]
    · rw [if_neg h1]
      by_cases h2 : a < 194 ∨ 244 < a
      · have e : utf_lead.f (k + 5) a = some (0, 128, 191) := by
          unfold utf_lead.f
          rw [if_neg h1]
          by_cases h3 : a < 194
          · rw [if_pos h3, utf_lead.j0, if_pos rfl]
          · rw [if_neg h3, show decide (a > 244) = true by simp; omega, utf_lead.j0, if_pos rfl]
        rw [if_pos h2, e]
        simp only [Option.bind_some]
        rw [if_pos (by omega), if_pos trivial]
      · rw [if_neg h2]
        obtain ⟨n, lo, hi, e, hn, hlo, hhi, htwo⟩ := p_lead a (by omega) (k + 5) (by omega)
        have hn2 : 2 ≤ n ∧ n ≤ 4 := by rw [hn]; split <;> (try split) <;> omega
        rw [e]
        simp only [Option.bind_some]
        rw [if_neg (by omega), if_pos (by omega), w32 (x := a) (by omega) (by omega)]
        -- the head's own bits
        obtain ⟨r, hr⟩ : ∃ r, Go.bits .and .i32 a (shr .i32 127 n) = r := ⟨_, rfl⟩
        have hrv : r = if a < 224 then a - 192 else if a < 240 then a - 224 else a - 240 := by
          rw [← hr, hn]
          by_cases h3 : a < 224
          · rw [if_pos h3, if_pos h3, show shr .i32 127 2 = 31 by decide, and31 ha]; omega
          · rw [if_neg h3, if_neg h3]
            by_cases h4 : a < 240
            · rw [if_pos h4, if_pos h4, show shr .i32 127 3 = 15 by decide, and15 ha]; omega
            · rw [if_neg h4, if_neg h4, show shr .i32 127 4 = 7 by decide, and7 ha]; omega
        have hrb : 0 ≤ r ∧ r ≤ 31 := by rw [hrv]; split <;> (try split) <;> omega
        rw [hr]
        match t with
        | [] => exact p_end _ [a] n lo hi r 1 (by omega) rfl
        | b :: t =>
          have hb := h8 b (by simp)
          have r1 : rd (a :: b :: t) ((1 : Nat) : Int) = b := rfl
          dsimp only
          by_cases hT : two a b = true
          · rw [hT, if_neg (by simp)]
            have hT' := htwo b
            rw [hT] at hT'
            simp at hT'
            rw [show ((1 : Int)) = ((1 : Nat) : Int) from rfl, p_on (k + 4) _ n lo hi r 1 (by omega) (by simp) (by rw [r1]; omega) (by rw [r1]; omega) (by omega) (by omega), r1]
            by_cases h3 : a < 224
            · rw [if_pos h3] at hn hrv
              rw [if_pos h3, p_fin (k + 3) _ n _ _ _ 2 (by omega), hn, hrv]
            · rw [if_neg h3] at hn hrv
              rw [if_neg h3]
              match t with
              | [] => exact p_end _ [a, b] n 128 191 _ 2 (by split at hn <;> omega) rfl
              | c :: t =>
                have hc := h8 c (by simp)
                have r2 : rd (a :: b :: c :: t) ((2 : Nat) : Int) = c := rfl
                dsimp only
                by_cases hC : cont c = true
                · rw [hC, if_neg (by simp)]
                  rw [cont_iff] at hC
                  rw [p_on (k + 3) _ n 128 191 _ 2 (by split at hn <;> omega) (by simp) (by rw [r2]; omega) (by rw [r2]; omega) (by omega) (by omega), r2]
                  by_cases h4 : a < 240
                  · rw [if_pos h4] at hn hrv
                    rw [if_pos h4, p_fin (k + 2) _ n _ _ _ 3 (by omega), hn, hrv]
                    congr 2; omega
                  · rw [if_neg h4] at hn hrv
                    rw [if_neg h4]
                    match t with
                    | [] => exact p_end _ [a, b, c] n 128 191 _ 3 (by omega) rfl
                    | d :: t =>
                      have hd := h8 d (by simp)
                      have r3 : rd (a :: b :: c :: d :: t) ((3 : Nat) : Int) = d := rfl
                      dsimp only
                      by_cases hD : cont d = true
                      · rw [hD, if_neg (by simp)]
                        rw [cont_iff] at hD
                        rw [p_on (k + 2) _ n 128 191 _ 3 (by omega) (by simp) (by rw [r3]; omega) (by rw [r3]; omega) (by omega) (by omega), r3, p_fin (k + 1) _ n _ _ _ 4 (by omega), hn, hrv]
                        congr 2; omega
                      · rw [Bool.eq_false_iff.2 hD, if_pos rfl]
                        rw [cont_iff] at hD
                        exact p_bad _ _ n 128 191 _ 3 (by omega) (by simp) (by rw [r3]; simp; omega)
                · rw [Bool.eq_false_iff.2 hC, if_pos rfl]
                  rw [cont_iff] at hC
                  exact p_bad _ _ n 128 191 _ 2 (by split at hn <;> omega) (by simp) (by rw [r2]; simp; omega)
          · rw [Bool.eq_false_iff.2 hT, if_pos rfl]
            have hT' := htwo b
            rw [Bool.eq_false_iff.2 hT] at hT'
            exact p_bad _ _ n lo hi r 1 (by omega) (by simp) (by rw [r1]; exact hT'.symm)
theorem p_walk_l : ∀ (n : Nat) (l out : List Int) (k : Nat), l.length ≤ n → In8u l → out.length + n ≤ 10000000 → n + 12 < k → utf_walk.l0 k l out = some (out ++ runesZ l) := by
  intro n
  induction n with
  | zero =>
    intro l out k hl h8 ho hk
    obtain ⟨k, rfl⟩ : ∃ m, k = m + 1 := ⟨k - 1, by omega⟩
    obtain rfl := List.eq_nil_of_length_eq_zero (Nat.le_zero.1 hl)
    rw [utf_walk.l0, if_neg (by simp), runesZ_nil, List.append_nil]
  | succ n ih =>
    intro l out k hl h8 ho hk
    obtain ⟨k, rfl⟩ : ∃ m, k = m + 1 := ⟨k - 1, by omega⟩
    match l with
    | [] => rw [utf_walk.l0, if_neg (by simp), runesZ_nil, List.append_nil]
    | a :: t =>
      rw [utf_walk.l0, if_pos (by simp only [List.length_cons]; omega), p_parse (a :: t) h8 (by simp) k (by omega), runesZ_cons]
      simp only [Option.bind_some]
      by_cases hb : (parseZ (a :: t)).2.2 = true
      · rw [if_pos hb, if_pos hb, if_pos (by omega)]
      · have hp := parseZ_pos a t (Bool.eq_false_iff.2 hb)
        rw [if_neg hb, if_neg hb, if_pos (by omega), if_pos (by omega), if_pos (by omega), ih _ _ k (by rw [List.length_drop]; omega) (fun x hx => h8 x (List.mem_of_mem_drop hx)) (by simp only [List.length_append, List.length_cons, List.length_nil]; omega) (by omega)]
        rw [List.append_assoc, List.singleton_append]
theorem p_walk (l : List Int) (h8 : In8u l) (hl : l.length ≤ 1000000) : utf_walk.f (l.length + 13) l = some (runesZ l) := by
  unfold utf_walk.f
  rw [p_walk_l l.length l [] _ (Nat.le_refl _) h8 (by simp; omega) (by omega), List.nil_append]
theorem all8 {l : List Int} : (l.all (fun x => decide (0 ≤ x ∧ x ≤ 255)) = true) ↔ In8u l := by
  rw [List.all_eq_true]
  exact ⟨fun h x hx => of_decide_eq_true (h x hx), fun h x hx => decide_eq_true (h x hx)⟩
/-! ### utf_Runes: function 19: of own contracts -/
def utf_Runes.f (l0 : List Int) : Option (List Int) := if l0.all (fun x => decide (0 ≤ x ∧ x ≤ 255)) = true ∧ l0.length ≤ 1000000 then some (runesZ l0) else none
theorem utf_Runes.calls (A0 : Option Addr) (c0 : Nat) (l0 : List Int) (r : List Int) (w : World) (hr0 : Kd.C (Kd.int .u8) w A0 l0.length l0) (hc0 : l0.length ≤ c0) (h : utf_Runes.f l0 = some r) :
    Calls Try.prog 19 #[.slice A0 l0.length c0] w fun e w' => ∃ v0_ : Value, e = .returned (v0_) ∧ Kd.R (Kd.int .i32) 21 w' w.heap.size (fun _ => True) v0_ r ∧ Below w.heap.size w w' := by
  by_cases hb : l0.all (fun x => decide (0 ≤ x ∧ x ≤ 255)) = true ∧ l0.length ≤ 1000000
  case neg => unfold utf_Runes.f at h; rw [if_neg hb] at h; cases h
  unfold utf_Runes.f at h
  rw [if_pos hb] at h
  injection h with h
  subst h
  refine Runes_walk ?_ A0 c0 l0 w hr0 hc0 (all8.1 hb.1) hb.2
  intro A c l w hC hc h8 hl
  refine (utf_walk.calls (l.length + 13) (fun k_ => k_ < w.heap.size) A c l (runesZ l) w (Kd.V_mk hc (Kd.F_below (Kd.C_F (Kd.heap_int .u8) hC) (Below.refl _ _))) (p_walk l h8 hl)).mono ?_
  rintro e w' ⟨v, e1, hR, hb⟩
  exact ⟨v, e1, Kd.R_mono hR (fun _ _ => trivial), hb⟩

theorem Same_l (a : List Int) (h32 : ∀ x ∈ a, -2147483648 ≤ x ∧ x ≤ 2147483647) (hl : a.length ≤ 1000000) : ∀ (d i k : Nat), i + d = a.length → d < k → prolepsislaw02_Same.l0 k a a (i : Int) = some true := by
  intro d
  induction d with
  | zero =>
    intro i k hi hk
    obtain ⟨k, rfl⟩ := kp hk
    rw [prolepsislaw02_Same.l0, if_neg (by omega)]
  | succ d ih =>
    intro i k hi hk
    obtain ⟨k, rfl⟩ := kp hk
    have hx := h32 _ (rd_in (show i < a.length by omega))
    rw [prolepsislaw02_Same.l0, if_pos (by omega), if_pos (by omega), if_pos (by omega), w64 (x := rd a (i : Int)) (by omega) (by omega), if_pos rfl, w64 (by omega) (by omega), cast1, ih (i + 1) k (by omega) (by omega)]
theorem Same_ok (a : List Int) (h32 : ∀ x ∈ a, -2147483648 ≤ x ∧ x ≤ 2147483647) (hl : a.length ≤ 1000000) (k : Nat) (hk : a.length < k) : prolepsislaw02_Same.f k a a = some true := by
  unfold prolepsislaw02_Same.f
  rw [if_pos rfl]
  exact Same_l a h32 hl a.length 0 k (by omega) hk
/-! ### prolepsislaw02_known: function 17: of own contracts -/
def prolepsislaw02_known.f  : Option (Bool) := some true
theorem prolepsislaw02_known.calls  (r : Bool) (w : World) (h : prolepsislaw02_known.f  = some r) :
    Calls Try.prog 17 #[] w fun e w' => e = .returned (.bool r) ∧ Below w.heap.size w w' := by
  cases h
  refine known_walk ?_ ?_ w
  · intro A c l r w hr hC hc h8 hl
    exact utf_Runes.calls A c l r w hC hc (by unfold utf_Runes.f; rw [if_pos ⟨all8.2 h8, hl⟩, hr])
  · intro A0 c0 A1 c1 l w hl hC0 hc0 hC1 hc1
    exact (prolepsislaw02_Same.calls (l.length + 1) A0 c0 l A1 c1 l true w hC0 hc0 hC1 hc1 (Same_ok l hl.2 (by omega) _ (by omega))).mono (fun e w' ⟨a, b⟩ => ⟨a, b.below⟩)

-- NOT PRINTED: function 25 (utf_Stream_Held)

end Go.Proofs.Ytglcopljhanhmaa.PUtfStreams
