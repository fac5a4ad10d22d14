/- LineMakes: what its proof leads to. No condition. -/
import Derived.Test.YtblcmcdifgclcaaPLineMakesx0qLineMakes
import Derived.Test.YtblcmcdifgclcaaPLineMakesx1qLineMakes
import Derived.Test.YtblcmcdifgclcaaPLineMakesx2qLineMakes
import Derived.Test.YtblcmcdifgclcaaPLineMakesx3qLineMakes
import Derived.Test.YtblcmcdifgclcaaPLineMakesx4qLineMakes
import Derived.Test.YtblcmcdifgclcaaPLineMakesx5qLineMakes
import Derived.Test.YtblcmcdifgclcaaPLineMakesx6qLineMakes
import Derived.Test.YtblcmcdifgclcaaPLineMakesx7qLineMakes
import Derived.Test.YtblcmcdifgclcaaPLineMakesx8qLineMakes
import Derived.Test.YtblcmcdifgclcaaPLineMakesx9qLineMakes
import Derived.Test.YtblcmcdifgclcaaPLineMakesx10qLineMakes
import Derived.Test.YtblcmcdifgclcaaPLineMakesx11qLineMakes
import Derived.Test.YtblcmcdifgclcaaShortqLineMakes
namespace Go.Proofs.Ytblcmcdifgclcaa.PLineMakes
open Go.RowKit Go.Proofs.YtblcmcdifgclcaaW.PrintWords Go.Proofs.YtblcmcdifgclcaaW.PrintLast Go.Proofs.YtblcmcdifgclcaaW.PrintMore
attribute [local go_sem] max2_int min2_int max_two min_two
set_option linter.unusedVariables false
set_option linter.unusedSimpArgs false

def prolepsislaw06_LineMakes.f (k : Nat) (l0 : List (S26)) (a1_0 : Int) (a1_1 : Int) (a1_2 : Int) (a1_3 : Int) (a1_4 : Int) (a1_5 : Int) (a1_6 : Int) (a2 : Int) (a3 : Int) (a4_0 : Int) (a4_1 : Int) (a4_2 : Int) (a5 : Int) : Option (Bool) := (prolepsislaw06_Cut.f l0).bind fun t482 => ((prolepsislaw06_Of.f k t482).bind fun t485 => ((line_Put.f k t482 a2 a1_0 a1_1 a1_2 a1_3 a1_4 a1_5 a1_6).bind fun bt488 => ((prolepsislaw05_Of.f a1_0 a1_1 a1_2 a1_3 a1_4 a1_5 a1_6).bind fun bt492 => ((prolepsisref06_Put.f k t485 a2 bt492.1 bt492.2.1 bt492.2.2.1 bt492.2.2.2.1 bt492.2.2.2.2.1 bt492.2.2.2.2.2.1 bt492.2.2.2.2.2.2).bind fun bt499 => ((line_Mark.f k t482 a2 a5).bind fun bt503 => ((prolepsisref06_Mark.f k t485 a2 (wrap64 (a5))).bind fun bt507 => ((prolepsislaw06_known.f).bind fun t511 => (if t511 = true then ((prolepsislaw06_Same.f k bt488.1 bt499.1).bind fun t512 => (if t512 = true then (if (bt488.2 == bt499.2) = true then ((prolepsislaw06_Same.f k bt503.1 bt507.1).bind fun t513 => (if t513 = true then (if (bt503.2 == bt507.2) = true then ((line_Erase.f k t482 a2 a3 a4_0 a4_1 a4_2).bind fun t514 => ((prolepsisref06_Erase.f k t485 a2 a3 a4_0 a4_1 a4_2).bind fun t517 => ((prolepsislaw06_Same.f k t514 t517).bind fun t520 => (if t520 = true then ((line_Fit.f k t482 a3).bind fun t521 => ((prolepsisref06_Fit.f k t485 a3).bind fun t524 => ((prolepsislaw06_Same.f k t521 t524).bind fun t527 => (if t527 = true then ((line_Mend.f t482).bind fun t528 => ((prolepsisref06_Mend.f k t485).bind fun t531 => ((prolepsislaw06_Same.f k t528 t531).bind fun t534 => (if t534 = true then ((line_New.f k a3).bind fun t535 => ((prolepsisref06_New.f k a3).bind fun t538 => ((prolepsislaw06_Same.f k t535 t538).bind fun t541 => (if t541 = true then ((prolepsislaw06_Same.f k t482 t485).bind fun t542 => (some t542)) else (some false))))) else (some false))))) else (some false))))) else (some false))))) else (some false)) else (some false))) else (some false)) else (some false))) else (some false)))))))))
def prolepsislaw06_LineMakes.T7 : Bool × List (List Nat × List Nat) := (true, [([], []), ([0, 0], [0]), ([1], [1]), ([1], [1]), ([2, 3, 1, 1], [1, 2, 3]), ([1, 4], [1, 4]), ([5, 4], [5]), ([6], [6]), ([6], [6]), ([7, 8, 6], [6, 7, 8]), ([6, 9], [6, 9]), ([10, 6], [10]), ([11], [11]), ([11], [11]), ([12, 13, 11, 11], [11, 12, 13]), ([11, 14], [11, 14]), ([15, 14], [15]), ([16], [16]), ([16], [16]), ([17, 18, 16], [16, 17, 18]), ([16, 19], [16, 19]), ([20, 16], [20]), ([21], [21]), ([21], [21]), ([21], [21]), ([21], [21]), ([22, 23, 24, 25, 21, 21], [21, 22, 23, 24, 25]), ([21], [21]), ([21], [21]), ([21], [21]), ([21], [21]), ([27, 28, 29, 30, 26, 21], [21, 27, 28, 29, 30]), ([26, 31, 31, 21], [21, 26, 31]), ([21, 32], [21, 32]), ([33, 32], [33]), ([34], [34]), ([34], [34]), ([35, 36, 34, 34], [34, 35, 36]), ([34], [34]), ([34], [34]), ([38, 39, 37, 34], [34, 38, 39]), ([37, 40, 40, 34], [34, 37, 40]), ([34, 41], [34, 41]), ([42, 41], [42]), ([43], [43]), ([44, 43, 43], [43, 44]), ([43], [43]), ([46, 45, 43], [43, 46]), ([45, 47, 47, 43], [43, 45, 47]), ([43, 48], [43, 48]), ([49, 48], [49]), ([50], [50]), ([51, 50, 50], [50, 51]), ([50], [50]), ([53, 52, 50], [50, 53]), ([52, 54, 54, 50], [50, 52, 54]), ([50, 55], [50, 55]), ([56, 55], [56]), ([57], [57]), ([57], [57]), ([58, 59, 57, 57], [57, 58, 59]), ([57, 60], [57, 60]), ([61, 60, 0, 1, 2, 3, 4, 5, 6, 7, 8, 9, 10, 11, 12, 13, 14, 15, 16, 17, 18, 19, 20, 21, 22, 23, 24, 25, 26, 27, 28, 29, 30, 31, 32, 33, 34, 35, 36, 37, 38, 39, 40, 41, 42, 43, 44, 45, 46, 47, 48, 49, 50, 51, 52, 53, 54, 55, 56, 57, 58, 59, 60, 61], [61])])
def prolepsislaw06_LineMakes.B7 : List Nat := [0, 1, 3, 3, 15, 31, 63, 127, 127, 511, 1023, 2047, 4095, 4095, 16383, 32767, 65535, 131071, 131071, 524287, 1048575, 2097151, 4194303, 4194303, 4194303, 4194303, 67108863, 4194303, 4194303, 4194303, 4194303, 2147483647, 4294967295, 8589934591, 17179869183, 34359738367, 34359738367, 137438953471, 34359738367, 34359738367, 1099511627775, 2199023255551, 4398046511103, 8796093022207, 17592186044415, 35184372088831, 17592186044415, 140737488355327, 281474976710655, 562949953421311, 1125899906842623, 2251799813685247, 4503599627370495, 2251799813685247, 18014398509481983, 36028797018963967, 72057594037927935, 144115188075855871, 288230376151711743, 288230376151711743, 1152921504606846975, 2305843009213693951, 4611686018427387903]
theorem prolepsislaw06_LineMakes.tab7 : rtab .any (opsOf Try.f7 7) = prolepsislaw06_LineMakes.T7 := by kernel_rfl
theorem prolepsislaw06_LineMakes.bits7 : waitsOk prolepsislaw06_LineMakes.T7.2 prolepsislaw06_LineMakes.B7 = true := by kernel_rfl
set_option maxHeartbeats 8000000 in
set_option maxRecDepth 100000 in
theorem prolepsislaw06_LineMakes.calls (k : Nat) (A0 : Option Addr) (c0 : Nat) (l0 : List (S26)) (a1_0 : Int) (a1_1 : Int) (a1_2 : Int) (a1_3 : Int) (a1_4 : Int) (a1_5 : Int) (a1_6 : Int) (a2 : Int) (a3 : Int) (a4_0 : Int) (a4_1 : Int) (a4_2 : Int) (a5 : Int) (r : Bool) (w : World) (hr0 : Kd.C k26 w A0 l0.length l0) (hc0 : l0.length ≤ c0) (h : prolepsislaw06_LineMakes.f k l0 a1_0 a1_1 a1_2 a1_3 a1_4 a1_5 a1_6 a2 a3 a4_0 a4_1 a4_2 a5 = some r) (hr : r = true) :
    Calls Try.prog 7 #[.slice A0 l0.length c0, .agg #[.int .i32 a1_0, .int .i32 a1_1, .int .i32 a1_2, .int .u8 a1_3, .int .u8 a1_4, .int .u8 a1_5, .int .u8 a1_6], .int .i64 a2, .int .i64 a3, .agg #[.int .u8 a4_0, .int .u8 a4_1, .int .u8 a4_2], .int .i32 a5] w fun e w' => e = .returned (.bool r) ∧ Below w.heap.size w w' := by
  have HRT := Aside0.mk hr
  clear hr
  have hu26 := Try.underlying26
  have hu24 := Try.underlying24
  have HR0 := Aside0.mk hr0
  have HC0 := Aside0.mk hc0
  clear hr0 hc0
  have HB := aS (Below.refl w.heap.size w)
  have H : ((prolepsislaw06_Cut.f l0).bind fun t482 => ((prolepsislaw06_Of.f k t482).bind fun t485 => ((line_Put.f k t482 a2 a1_0 a1_1 a1_2 a1_3 a1_4 a1_5 a1_6).bind fun bt488 => ((prolepsislaw05_Of.f a1_0 a1_1 a1_2 a1_3 a1_4 a1_5 a1_6).bind fun bt492 => ((prolepsisref06_Put.f k t485 a2 bt492.1 bt492.2.1 bt492.2.2.1 bt492.2.2.2.1 bt492.2.2.2.2.1 bt492.2.2.2.2.2.1 bt492.2.2.2.2.2.2).bind fun bt499 => ((line_Mark.f k t482 a2 a5).bind fun bt503 => ((prolepsisref06_Mark.f k t485 a2 (wrap64 (a5))).bind fun bt507 => ((prolepsislaw06_known.f).bind fun t511 => (if t511 = true then ((prolepsislaw06_Same.f k bt488.1 bt499.1).bind fun t512 => (if t512 = true then (if (bt488.2 == bt499.2) = true then ((prolepsislaw06_Same.f k bt503.1 bt507.1).bind fun t513 => (if t513 = true then (if (bt503.2 == bt507.2) = true then ((line_Erase.f k t482 a2 a3 a4_0 a4_1 a4_2).bind fun t514 => ((prolepsisref06_Erase.f k t485 a2 a3 a4_0 a4_1 a4_2).bind fun t517 => ((prolepsislaw06_Same.f k t514 t517).bind fun t520 => (if t520 = true then ((line_Fit.f k t482 a3).bind fun t521 => ((prolepsisref06_Fit.f k t485 a3).bind fun t524 => ((prolepsislaw06_Same.f k t521 t524).bind fun t527 => (if t527 = true then ((line_Mend.f t482).bind fun t528 => ((prolepsisref06_Mend.f k t485).bind fun t531 => ((prolepsislaw06_Same.f k t528 t531).bind fun t534 => (if t534 = true then ((line_New.f k a3).bind fun t535 => ((prolepsisref06_New.f k a3).bind fun t538 => ((prolepsislaw06_Same.f k t535 t538).bind fun t541 => (if t541 = true then ((prolepsislaw06_Same.f k t482 t485).bind fun t542 => (some t542)) else (some false))))) else (some false))))) else (some false))))) else (some false))))) else (some false)) else (some false))) else (some false)) else (some false))) else (some false)))))))))) = some r := h
  clear h
  replace H := Option.bind_eq_some_iff.mp H
  obtain ⟨t482, A70, H⟩ := H
  try dsimp only at H
  have A7 := Aside0.mk A70
  clear A70
  replace H := Option.bind_eq_some_iff.mp H
  obtain ⟨t485, A80, H⟩ := H
  try dsimp only at H
  have A8 := Aside0.mk A80
  clear A80
  replace H := Option.bind_eq_some_iff.mp H
  obtain ⟨⟨t488, t491⟩, A90, H⟩ := H
  try dsimp only at H
  have A9 := Aside0.mk A90
  clear A90
  replace H := Option.bind_eq_some_iff.mp H
  obtain ⟨⟨t492, t493, t494, t495, t496, t497, t498⟩, A100, H⟩ := H
  try dsimp only at H
  have A10 := Aside0.mk A100
  clear A100
  replace H := Option.bind_eq_some_iff.mp H
  obtain ⟨⟨t499, t502⟩, A110, H⟩ := H
  try dsimp only at H
  have A11 := Aside0.mk A110
  clear A110
  replace H := Option.bind_eq_some_iff.mp H
  obtain ⟨⟨t503, t504⟩, A120, H⟩ := H
  try dsimp only at H
  have A12 := Aside0.mk A120
  clear A120
  replace H := Option.bind_eq_some_iff.mp H
  obtain ⟨⟨t507, t510⟩, A130, H⟩ := H
  try dsimp only at H
  have A13 := Aside0.mk A130
  clear A130
  replace H := Option.bind_eq_some_iff.mp H
  obtain ⟨t511, A140, H⟩ := H
  try dsimp only at H
  have A14 := Aside0.mk A140
  clear A140
  by_cases c15 : t511 = true
  · subst c15
    have H1 : ((prolepsislaw06_Same.f k t488 t499).bind fun t512 => (if t512 = true then (if (t491 == t502) = true then ((prolepsislaw06_Same.f k t503 t507).bind fun t513 => (if t513 = true then (if (t504 == t510) = true then ((line_Erase.f k t482 a2 a3 a4_0 a4_1 a4_2).bind fun t514 => ((prolepsisref06_Erase.f k t485 a2 a3 a4_0 a4_1 a4_2).bind fun t517 => ((prolepsislaw06_Same.f k t514 t517).bind fun t520 => (if t520 = true then ((line_Fit.f k t482 a3).bind fun t521 => ((prolepsisref06_Fit.f k t485 a3).bind fun t524 => ((prolepsislaw06_Same.f k t521 t524).bind fun t527 => (if t527 = true then ((line_Mend.f t482).bind fun t528 => ((prolepsisref06_Mend.f k t485).bind fun t531 => ((prolepsislaw06_Same.f k t528 t531).bind fun t534 => (if t534 = true then ((line_New.f k a3).bind fun t535 => ((prolepsisref06_New.f k a3).bind fun t538 => ((prolepsislaw06_Same.f k t535 t538).bind fun t541 => (if t541 = true then ((prolepsislaw06_Same.f k t482 t485).bind fun t542 => (some t542)) else (some false))))) else (some false))))) else (some false))))) else (some false))))) else (some false)) else (some false))) else (some false)) else (some false))) = some r := by rw [if_pos rfl] at H; exact H
    clear H
    have H := H1
    clear H1
    replace H := Option.bind_eq_some_iff.mp H
    obtain ⟨t512, A160, H⟩ := H
    try dsimp only at H
    have A16 := Aside0.mk A160
    clear A160
    by_cases c17 : t512 = true
    · subst c17
      have H1 : (if (t491 == t502) = true then ((prolepsislaw06_Same.f k t503 t507).bind fun t513 => (if t513 = true then (if (t504 == t510) = true then ((line_Erase.f k t482 a2 a3 a4_0 a4_1 a4_2).bind fun t514 => ((prolepsisref06_Erase.f k t485 a2 a3 a4_0 a4_1 a4_2).bind fun t517 => ((prolepsislaw06_Same.f k t514 t517).bind fun t520 => (if t520 = true then ((line_Fit.f k t482 a3).bind fun t521 => ((prolepsisref06_Fit.f k t485 a3).bind fun t524 => ((prolepsislaw06_Same.f k t521 t524).bind fun t527 => (if t527 = true then ((line_Mend.f t482).bind fun t528 => ((prolepsisref06_Mend.f k t485).bind fun t531 => ((prolepsislaw06_Same.f k t528 t531).bind fun t534 => (if t534 = true then ((line_New.f k a3).bind fun t535 => ((prolepsisref06_New.f k a3).bind fun t538 => ((prolepsislaw06_Same.f k t535 t538).bind fun t541 => (if t541 = true then ((prolepsislaw06_Same.f k t482 t485).bind fun t542 => (some t542)) else (some false))))) else (some false))))) else (some false))))) else (some false))))) else (some false)) else (some false))) else (some false)) = some r := by rw [if_pos rfl] at H; exact H
      clear H
      have H := H1
      clear H1
      by_cases c18 : (t491 == t502) = true
      · rw [if_pos c18] at H
        have c18b0 : (t491 == t502) = true := c18
        (try (have c18b1 : decide (t491 = t502) = true := by simpa using c18))
        (try (have c18b2 : (t491 == t502) = true := by simpa using c18))
        clear c18
        replace H := Option.bind_eq_some_iff.mp H
        obtain ⟨t513, A190, H⟩ := H
        try dsimp only at H
        have A19 := Aside0.mk A190
        clear A190
        by_cases c20 : t513 = true
        · subst c20
          have H1 : (if (t504 == t510) = true then ((line_Erase.f k t482 a2 a3 a4_0 a4_1 a4_2).bind fun t514 => ((prolepsisref06_Erase.f k t485 a2 a3 a4_0 a4_1 a4_2).bind fun t517 => ((prolepsislaw06_Same.f k t514 t517).bind fun t520 => (if t520 = true then ((line_Fit.f k t482 a3).bind fun t521 => ((prolepsisref06_Fit.f k t485 a3).bind fun t524 => ((prolepsislaw06_Same.f k t521 t524).bind fun t527 => (if t527 = true then ((line_Mend.f t482).bind fun t528 => ((prolepsisref06_Mend.f k t485).bind fun t531 => ((prolepsislaw06_Same.f k t528 t531).bind fun t534 => (if t534 = true then ((line_New.f k a3).bind fun t535 => ((prolepsisref06_New.f k a3).bind fun t538 => ((prolepsislaw06_Same.f k t535 t538).bind fun t541 => (if t541 = true then ((prolepsislaw06_Same.f k t482 t485).bind fun t542 => (some t542)) else (some false))))) else (some false))))) else (some false))))) else (some false))))) else (some false)) = some r := by rw [if_pos rfl] at H; exact H
          clear H
          have H := H1
          clear H1
          by_cases c21 : (t504 == t510) = true
          · rw [if_pos c21] at H
            have c21b0 : (t504 == t510) = true := c21
            (try (have c21b1 : decide (t504 = t510) = true := by simpa using c21))
            (try (have c21b2 : (t504 == t510) = true := by simpa using c21))
            clear c21
            replace H := Option.bind_eq_some_iff.mp H
            obtain ⟨t514, A220, H⟩ := H
            try dsimp only at H
            have A22 := Aside0.mk A220
            clear A220
            replace H := Option.bind_eq_some_iff.mp H
            obtain ⟨t517, A230, H⟩ := H
            try dsimp only at H
            have A23 := Aside0.mk A230
            clear A230
            replace H := Option.bind_eq_some_iff.mp H
            obtain ⟨t520, A240, H⟩ := H
            try dsimp only at H
            have A24 := Aside0.mk A240
            clear A240
            by_cases c25 : t520 = true
            · subst c25
              have H1 : ((line_Fit.f k t482 a3).bind fun t521 => ((prolepsisref06_Fit.f k t485 a3).bind fun t524 => ((prolepsislaw06_Same.f k t521 t524).bind fun t527 => (if t527 = true then ((line_Mend.f t482).bind fun t528 => ((prolepsisref06_Mend.f k t485).bind fun t531 => ((prolepsislaw06_Same.f k t528 t531).bind fun t534 => (if t534 = true then ((line_New.f k a3).bind fun t535 => ((prolepsisref06_New.f k a3).bind fun t538 => ((prolepsislaw06_Same.f k t535 t538).bind fun t541 => (if t541 = true then ((prolepsislaw06_Same.f k t482 t485).bind fun t542 => (some t542)) else (some false))))) else (some false))))) else (some false))))) = some r := by rw [if_pos rfl] at H; exact H
              clear H
              have H := H1
              clear H1
              replace H := Option.bind_eq_some_iff.mp H
              obtain ⟨t521, A260, H⟩ := H
              try dsimp only at H
              have A26 := Aside0.mk A260
              clear A260
              replace H := Option.bind_eq_some_iff.mp H
              obtain ⟨t524, A270, H⟩ := H
              try dsimp only at H
              have A27 := Aside0.mk A270
              clear A270
              replace H := Option.bind_eq_some_iff.mp H
              obtain ⟨t527, A280, H⟩ := H
              try dsimp only at H
              have A28 := Aside0.mk A280
              clear A280
              by_cases c29 : t527 = true
              · subst c29
                have H1 : ((line_Mend.f t482).bind fun t528 => ((prolepsisref06_Mend.f k t485).bind fun t531 => ((prolepsislaw06_Same.f k t528 t531).bind fun t534 => (if t534 = true then ((line_New.f k a3).bind fun t535 => ((prolepsisref06_New.f k a3).bind fun t538 => ((prolepsislaw06_Same.f k t535 t538).bind fun t541 => (if t541 = true then ((prolepsislaw06_Same.f k t482 t485).bind fun t542 => (some t542)) else (some false))))) else (some false))))) = some r := by rw [if_pos rfl] at H; exact H
                clear H
                have H := H1
                clear H1
                replace H := Option.bind_eq_some_iff.mp H
                obtain ⟨t528, A300, H⟩ := H
                try dsimp only at H
                have A30 := Aside0.mk A300
                clear A300
                replace H := Option.bind_eq_some_iff.mp H
                obtain ⟨t531, A310, H⟩ := H
                try dsimp only at H
                have A31 := Aside0.mk A310
                clear A310
                replace H := Option.bind_eq_some_iff.mp H
                obtain ⟨t534, A320, H⟩ := H
                try dsimp only at H
                have A32 := Aside0.mk A320
                clear A320
                by_cases c33 : t534 = true
                · subst c33
                  have H1 : ((line_New.f k a3).bind fun t535 => ((prolepsisref06_New.f k a3).bind fun t538 => ((prolepsislaw06_Same.f k t535 t538).bind fun t541 => (if t541 = true then ((prolepsislaw06_Same.f k t482 t485).bind fun t542 => (some t542)) else (some false))))) = some r := by rw [if_pos rfl] at H; exact H
                  clear H
                  have H := H1
                  clear H1
                  replace H := Option.bind_eq_some_iff.mp H
                  obtain ⟨t535, A340, H⟩ := H
                  try dsimp only at H
                  have A34 := Aside0.mk A340
                  clear A340
                  replace H := Option.bind_eq_some_iff.mp H
                  obtain ⟨t538, A350, H⟩ := H
                  try dsimp only at H
                  have A35 := Aside0.mk A350
                  clear A350
                  replace H := Option.bind_eq_some_iff.mp H
                  obtain ⟨t541, A360, H⟩ := H
                  try dsimp only at H
                  have A36 := Aside0.mk A360
                  clear A360
                  by_cases c37 : t541 = true
                  · subst c37
                    have H1 : ((prolepsislaw06_Same.f k t482 t485).bind fun t542 => (some t542)) = some r := by rw [if_pos rfl] at H; exact H
                    clear H
                    have H := H1
                    clear H1
                    replace H := Option.bind_eq_some_iff.mp H
                    obtain ⟨t542, A380, H⟩ := H
                    try dsimp only at H
                    have A38 := Aside0.mk A380
                    clear A380
                    obtain rfl := Option.some.inj H
                    go_enter Try.func7, Try.ntmps7
                    try go_wp2_with (first | ((with_reducible refine gate_dst (N := 7) rfl ?_); refine box_event ?hg (N := 7) ?hd (cs := #[.int .i32 a1_0, .int .i32 a1_1, .int .i32 a1_2, .int .u8 a1_3, .int .u8 a1_4, .int .u8 a1_5, .int .u8 a1_6]) (t := 26) ?hr ?_; (case hd => rfl); (case hg => rfl); (case hr => first | (go_simp; done) | (go_simp; rfl)); intro gb480 hg w39 hbox hb; have n0_ := aS (below_step (by repeat (first | (with_reducible first | exact HB.out | apply lA | apply lN | apply lD) | exact HB.out)) hb); have n1_ := aS (hbox); have n2_ := aS ((by rw [hg]; exact (below_size (by repeat (first | (with_reducible first | exact HB.out | apply lA | apply lN | apply lD) | exact HB.out))) : w.heap.size ≤ gb480)); have n3_ := aS ((by rw [hg]; exact (below_size (by repeat (first | (with_reducible first | exact HB.out | apply lA | apply lN | apply lD) | exact HB.out))) : w.heap.size ≤ gb480)); clear HB; have HB := n0_; have BK480 := n1_; have GW480 := n2_; have GE480 := n3_; clear n0_ n1_ n2_ n3_; clear hb hbox hg) | ((with_reducible refine gate_dst (N := 10) rfl ?_); refine box_event ?hg (N := 10) ?hd (cs := #[.int .u8 a4_0, .int .u8 a4_1, .int .u8 a4_2]) (t := 24) ?hr ?_; (case hd => rfl); (case hg => rfl); (case hr => first | (go_simp; done) | (go_simp; rfl)); intro gb481 hg w40 hbox hb; have n0_ := aS (blk_below (g := gb480) (o := .cells #[.int .i32 a1_0, .int .i32 a1_1, .int .i32 a1_2, .int .u8 a1_3, .int .u8 a1_4, .int .u8 a1_5, .int .u8 a1_6] 26 (0, 0)) (by (with_reducible repeat (first | apply bN | apply bD | apply bA)); exact BK480.out) hb); have n1_ := aS (below_step (by repeat (first | (with_reducible first | exact HB.out | apply lA | apply lN | apply lD | refine below_set ?_ GE480.out) | exact HB.out)) hb); have n2_ := aS (hbox); have n3_ := aS ((by rw [hg]; exact (below_size (by repeat (first | (with_reducible first | exact HB.out | apply lA | apply lN | apply lD | refine below_set ?_ GE480.out) | exact HB.out))) : w.heap.size ≤ gb481)); have n4_ := aS ((by rw [hg]; exact (below_size (by repeat (first | (with_reducible first | exact HB.out | apply lA | apply lN | apply lD | refine below_set ?_ GE480.out) | exact HB.out))) : w.heap.size ≤ gb481)); have n5_ := aS ((by rw [hg]; exact Nat.ne_of_lt (blk_lt (g := gb480) (o := .cells #[.int .i32 a1_0, .int .i32 a1_1, .int .i32 a1_2, .int .u8 a1_3, .int .u8 a1_4, .int .u8 a1_5, .int .u8 a1_6] 26 (0, 0)) (by (with_reducible repeat (first | apply bN | apply bD | apply bA)); exact BK480.out)) : gb480 ≠ gb481)); have n6_ := aS ((by rw [hg]; exact Nat.ne_of_gt (blk_lt (g := gb480) (o := .cells #[.int .i32 a1_0, .int .i32 a1_1, .int .i32 a1_2, .int .u8 a1_3, .int .u8 a1_4, .int .u8 a1_5, .int .u8 a1_6] 26 (0, 0)) (by (with_reducible repeat (first | apply bN | apply bD | apply bA)); exact BK480.out)) : gb481 ≠ gb480)); clear BK480; clear HB; have BK480 := n0_; have HB := n1_; have BK481 := n2_; have GW481 := n3_; have GE481 := n4_; have NB480_481 := n5_; have NB481_480 := n6_; clear n0_ n1_ n2_ n3_ n4_ n5_ n6_; clear hb hbox hg) | ((with_reducible refine gate_callee (f := 35) rfl ?_); refine goesL_ (some 23) rfl rfl Try.func35 (by kernel_rfl) rfl #[.slice A0 l0.length c0] rfl (by (try simp only [List.map_toArray, List.map_cons, List.map_nil]); first | done | rfl | (simp only [List.length_drop, List.length_take]; rfl)) ?_; (with_reducible refine (prolepsislaw06_Cut.calls _ _ l0 t482 _ ?side1 ?side2 A7.out).mono ?_); (case side1 => repeat (first | exact (Kd.C_below HR0.out HB.out) | (with_reducible refine Kd.C_alloc ?_ _) | (with_reducible refine Kd.C_drewN ?_ _) | (with_reducible refine Kd.C_drew ?_))); (case side2 => exact HC0.out); rintro e w41 ⟨v483, rfl, ho0, hb⟩; refine ⟨_, rfl, ?_⟩; have n0_ := aS (Kd.R_lower (Kd.R_newB ho0 (g := gb480) (o := .cells #[.int .i32 a1_0, .int .i32 a1_1, .int .i32 a1_2, .int .u8 a1_3, .int .u8 a1_4, .int .u8 a1_5, .int .u8 a1_6] 26 (0, 0)) (by (with_reducible repeat (first | apply bN | apply bD | apply bA)); exact BK480.out)) (below_size (by repeat (first | (with_reducible first | exact HB.out | apply lA | apply lN | apply lD | refine below_set ?_ GE480.out | refine below_set ?_ GE481.out) | exact HB.out)))); have n1_ := aS (blk_below (g := gb480) (o := .cells #[.int .i32 a1_0, .int .i32 a1_1, .int .i32 a1_2, .int .u8 a1_3, .int .u8 a1_4, .int .u8 a1_5, .int .u8 a1_6] 26 (0, 0)) (by (with_reducible repeat (first | apply bN | apply bD | apply bA)); exact BK480.out) hb); have n2_ := aS (blk_below (g := gb481) (o := .cells #[.int .u8 a4_0, .int .u8 a4_1, .int .u8 a4_2] 24 (0, 0)) (by (with_reducible repeat (first | apply bN | apply bD | apply bA)); exact BK481.out) hb); have n3_ := aS (below_step (by repeat (first | (with_reducible first | exact HB.out | apply lA | apply lN | apply lD | refine below_set ?_ GE480.out | refine below_set ?_ GE481.out) | exact HB.out)) hb); clear BK480; clear BK481; clear HB; have HO484 := n0_; have BK480 := n1_; have BK481 := n2_; have HB := n3_; clear n0_ n1_ n2_ n3_; (try clear hb); (try clear hb2); (try clear hk); (try clear hi); (try clear ho0); obtain ⟨Ao42, co42, eo42⟩ := Kd.R_slice HO484.out; subst eo42) | ((with_reducible refine gate_callee (f := 42) rfl ?_); refine goesL_ (some 25) rfl rfl Try.func42 (by kernel_rfl) rfl #[.slice Ao42 t482.length co42] rfl (by (try simp only [List.map_toArray, List.map_cons, List.map_nil]); first | done | rfl | (simp only [List.length_drop, List.length_take]; rfl)) ?_; (with_reducible refine (prolepsislaw06_Of.calls k _ _ t482 t485 _ ?side1 ?side2 A8.out).mono ?_); (case side1 => repeat (first | exact (Kd.R_reads' HO484.out).2.2 | (with_reducible refine Kd.C_alloc ?_ _) | (with_reducible refine Kd.C_drewN ?_ _) | (with_reducible refine Kd.C_drew ?_))); (case side2 => exact (Kd.R_reads' HO484.out).2.1); rintro e w43 ⟨v486, rfl, ho0, hb⟩; refine ⟨_, rfl, ?_⟩; have n0_ := aS (Kd.R_below (by (with_reducible repeat (first | apply rA | apply rN | apply rD)); exact HO484.out) hb); have n1_ := aS (Kd.R_lower ho0 (below_size (by repeat (first | (with_reducible first | exact HB.out | apply lA | apply lN | apply lD | refine below_set ?_ GE480.out | refine below_set ?_ GE481.out) | exact HB.out)))); have n2_ := aS (blk_below (g := gb480) (o := .cells #[.int .i32 a1_0, .int .i32 a1_1, .int .i32 a1_2, .int .u8 a1_3, .int .u8 a1_4, .int .u8 a1_5, .int .u8 a1_6] 26 (0, 0)) (by (with_reducible repeat (first | apply bN | apply bD | apply bA)); exact BK480.out) hb); have n3_ := aS (blk_below (g := gb481) (o := .cells #[.int .u8 a4_0, .int .u8 a4_1, .int .u8 a4_2] 24 (0, 0)) (by (with_reducible repeat (first | apply bN | apply bD | apply bA)); exact BK481.out) hb); have n4_ := aS (below_step (by repeat (first | (with_reducible first | exact HB.out | apply lA | apply lN | apply lD | refine below_set ?_ GE480.out | refine below_set ?_ GE481.out) | exact HB.out)) hb); clear HO484; clear BK480; clear BK481; clear HB; have HO484 := n0_; have HO487 := n1_; have BK480 := n2_; have BK481 := n3_; have HB := n4_; clear n0_ n1_ n2_ n3_ n4_; (try clear hb); (try clear hb2); (try clear hk); (try clear hi); (try clear ho0); have hnb44 := NB480_481.out; have hnc44 := NB481_480.out; obtain ⟨hcz45_0, hcz45_1, hcz45_2, hcz45_3, hcz45_4, hcz45_5, hcz45_6, hfz45_0, hfz45_1, hfz45_2, hfz45_3, hfz45_4, hfz45_5, hfz45_6⟩ := cel7 BK480.out) | ((with_reducible refine gate_callee (f := 37) rfl ?_); refine goesL_ (some 30) rfl rfl Try.func37 (by kernel_rfl) rfl #[.slice Ao42 t482.length co42, .int .i64 a2, .agg #[.int .i32 a1_0, .int .i32 a1_1, .int .i32 a1_2, .int .u8 a1_3, .int .u8 a1_4, .int .u8 a1_5, .int .u8 a1_6]] rfl (by (try simp only [List.map_toArray, List.map_cons, List.map_nil]); first | done | rfl | (simp only [List.length_drop, List.length_take]; rfl)) ?_; (with_reducible refine (line_Put.calls k _ _ t482 a2 a1_0 a1_1 a1_2 a1_3 a1_4 a1_5 a1_6 t488 t491 _ ?side1 ?side2 A9.out).mono ?_); (case side1 => repeat (first | exact (Kd.R_reads' HO484.out).2.2 | (with_reducible refine Kd.C_alloc ?_ _) | (with_reducible refine Kd.C_drewN ?_ _) | (with_reducible refine Kd.C_drew ?_))); (case side2 => exact (Kd.R_reads' HO484.out).2.1); rintro e w46 ⟨v489, rfl, ho0, hb⟩; refine ⟨_, rfl, ?_⟩; have n0_ := aS (Kd.R_elder' (by (with_reducible repeat (first | apply rA | apply rN | apply rD)); exact HO484.out) (Kd.R_base ho0) hb); have n1_ := aS (Kd.R_below (by (with_reducible repeat (first | apply rA | apply rN | apply rD)); exact HO487.out) hb); have n2_ := aS (Kd.R_lower (Kd.R_newB (Kd.R_new' ho0 (Kd.R_lt (by (with_reducible repeat (first | apply rA | apply rN | apply rD)); exact HO484.out))) (g := gb480) (o := .cells #[.int .i32 a1_0, .int .i32 a1_1, .int .i32 a1_2, .int .u8 a1_3, .int .u8 a1_4, .int .u8 a1_5, .int .u8 a1_6] 26 (0, 0)) (by (with_reducible repeat (first | apply bN | apply bD | apply bA)); exact BK480.out)) (below_size (by repeat (first | (with_reducible first | exact HB.out | apply lA | apply lN | apply lD | refine below_set ?_ GE480.out | refine below_set ?_ GE481.out) | exact HB.out)))); have n3_ := aS (blk_below (g := gb480) (o := .cells #[.int .i32 a1_0, .int .i32 a1_1, .int .i32 a1_2, .int .u8 a1_3, .int .u8 a1_4, .int .u8 a1_5, .int .u8 a1_6] 26 (0, 0)) (by (with_reducible repeat (first | apply bN | apply bD | apply bA)); exact BK480.out) hb); have n4_ := aS (blk_below (g := gb481) (o := .cells #[.int .u8 a4_0, .int .u8 a4_1, .int .u8 a4_2] 24 (0, 0)) (by (with_reducible repeat (first | apply bN | apply bD | apply bA)); exact BK481.out) hb); have n5_ := aS (below_step (by repeat (first | (with_reducible first | exact HB.out | apply lA | apply lN | apply lD | refine below_set ?_ GE480.out | refine below_set ?_ GE481.out) | exact HB.out)) hb); clear HO484; clear HO487; clear BK480; clear BK481; clear HB; have HO484 := n0_; have HO487 := n1_; have HO490 := n2_; have BK480 := n3_; have BK481 := n4_; have HB := n5_; clear n0_ n1_ n2_ n3_ n4_ n5_; (try clear hb); (try clear hb2); (try clear hk); (try clear hi); (try clear ho0); obtain ⟨hcz47_0, hcz47_1, hcz47_2, hcz47_3, hcz47_4, hcz47_5, hcz47_6, hfz47_0, hfz47_1, hfz47_2, hfz47_3, hfz47_4, hfz47_5, hfz47_6⟩ := cel7 BK480.out) | ((with_reducible refine gate_callee (f := 18) rfl ?_); refine goesL_ (some 37) rfl rfl Try.func18 (by kernel_rfl) rfl #[.agg #[.int .i32 a1_0, .int .i32 a1_1, .int .i32 a1_2, .int .u8 a1_3, .int .u8 a1_4, .int .u8 a1_5, .int .u8 a1_6]] rfl (by (try simp only [List.map_toArray, List.map_cons, List.map_nil]); first | done | rfl | (simp only [List.length_drop, List.length_take]; rfl)) ?_; (with_reducible refine (prolepsislaw05_Of.calls a1_0 a1_1 a1_2 a1_3 a1_4 a1_5 a1_6 t492 t493 t494 t495 t496 t497 t498 _ A10.out).mono ?_); rintro e w48 ⟨rfl, hb⟩; refine ⟨_, rfl, ?_⟩; have n0_ := aS (Kd.R_below (by (with_reducible repeat (first | apply rA | apply rN | apply rD)); exact HO484.out) hb); have n1_ := aS (Kd.R_below (by (with_reducible repeat (first | apply rA | apply rN | apply rD)); exact HO487.out) hb); have n2_ := aS (Kd.R_below (by (with_reducible repeat (first | apply rA | apply rN | apply rD)); exact HO490.out) hb); have n3_ := aS (blk_below (g := gb480) (o := .cells #[.int .i32 a1_0, .int .i32 a1_1, .int .i32 a1_2, .int .u8 a1_3, .int .u8 a1_4, .int .u8 a1_5, .int .u8 a1_6] 26 (0, 0)) (by (with_reducible repeat (first | apply bN | apply bD | apply bA)); exact BK480.out) hb); have n4_ := aS (blk_below (g := gb481) (o := .cells #[.int .u8 a4_0, .int .u8 a4_1, .int .u8 a4_2] 24 (0, 0)) (by (with_reducible repeat (first | apply bN | apply bD | apply bA)); exact BK481.out) hb); have n5_ := aS (below_step (by repeat (first | (with_reducible first | exact HB.out | apply lA | apply lN | apply lD | refine below_set ?_ GE480.out | refine below_set ?_ GE481.out) | exact HB.out)) hb); clear HO484; clear HO487; clear HO490; clear BK480; clear BK481; clear HB; have HO484 := n0_; have HO487 := n1_; have HO490 := n2_; have BK480 := n3_; have BK481 := n4_; have HB := n5_; clear n0_ n1_ n2_ n3_ n4_ n5_; (try clear hb); (try clear hb2); (try clear hk); (try clear hi); obtain ⟨Ao49, co49, eo49⟩ := Kd.R_slice HO487.out; subst eo49) | ((with_reducible refine gate_callee (f := 43) rfl ?_); refine goesL_ (some 38) rfl rfl Try.func43 (by kernel_rfl) rfl #[.slice Ao49 t485.length co49, .int .i64 a2, .agg #[.int .i64 t492, .int .i64 t493, .int .i64 t494, .int .u8 t495, .int .u8 t496, .int .u8 t497, .int .u8 t498]] rfl (by (try simp only [List.map_toArray, List.map_cons, List.map_nil]); first | done | rfl | (simp only [List.length_drop, List.length_take]; rfl)) ?_; (with_reducible refine (prolepsisref06_Put.calls k (fun k_ => some k_ = (.slice Ao49 t485.length co49 : Value).ownBlock) _ _ t485 a2 t492 t493 t494 t495 t496 t497 t498 t499 t502 _ ?side1 A11.out).mono ?_); (case side1 => exact Kd.R_V (Kd.R_tight rfl (Kd.R_types (Kd.R_types (Kd.R_apart' (Kd.R_apart' (HO487.out) (Kd.R_typed HO484.out) (by decide)) (Kd.R_typed HO490.out) (by decide)) BK480.out (by decide)) BK481.out (by decide)))); rintro e w50 ⟨v500, rfl, ho0, hb⟩; refine ⟨_, rfl, ?_⟩; have n0_ := aS (Kd.R_below (by (with_reducible repeat (first | apply rA | apply rN | apply rD)); exact HO484.out) hb); have n1_ := aS (Kd.R_below (by (with_reducible repeat (first | apply rA | apply rN | apply rD)); exact HO487.out) hb); have n2_ := aS (Kd.R_below (by (with_reducible repeat (first | apply rA | apply rN | apply rD)); exact HO490.out) hb); have n3_ := aS (Kd.V_lower (Kd.V_mono (ok' := fun k_ => some k_ ≠ (.slice Ao42 t482.length co42 : Value).ownBlock ∧ some k_ ≠ (v489 : Value).ownBlock ∧ k_ ≠ gb480 ∧ k_ ≠ gb481) ho0 (fun k_ hk_ => ⟨Or.elim hk_ (fun hs_ => ((Kd.R_types (Kd.R_types (Kd.R_apart' (Kd.R_apart' (HO487.out) (Kd.R_typed HO484.out) (by decide)) (Kd.R_typed HO490.out) (by decide)) BK480.out (by decide)) BK481.out (by decide)).1 k_ hs_.symm).1.1.1.2) (fun hn_ => (Kd.fresh' (Kd.R_lt (by (with_reducible repeat (first | apply rA | apply rN | apply rD)); exact HO484.out)) k_ hn_)), Or.elim hk_ (fun hs_ => ((Kd.R_types (Kd.R_types (Kd.R_apart' (Kd.R_apart' (HO487.out) (Kd.R_typed HO484.out) (by decide)) (Kd.R_typed HO490.out) (by decide)) BK480.out (by decide)) BK481.out (by decide)).1 k_ hs_.symm).1.1.2) (fun hn_ => (Kd.fresh' (Kd.R_lt (by (with_reducible repeat (first | apply rA | apply rN | apply rD)); exact HO490.out)) k_ hn_)), Or.elim hk_ (fun hs_ => ((Kd.R_types (Kd.R_types (Kd.R_apart' (Kd.R_apart' (HO487.out) (Kd.R_typed HO484.out) (by decide)) (Kd.R_typed HO490.out) (by decide)) BK480.out (by decide)) BK481.out (by decide)).1 k_ hs_.symm).1.2) (fun hn_ => (Kd.freshB (g := gb480) (o := .cells #[.int .i32 a1_0, .int .i32 a1_1, .int .i32 a1_2, .int .u8 a1_3, .int .u8 a1_4, .int .u8 a1_5, .int .u8 a1_6] 26 (0, 0)) (by (with_reducible repeat (first | apply bN | apply bD | apply bA)); exact BK480.out) k_ hn_)), Or.elim hk_ (fun hs_ => ((Kd.R_types (Kd.R_types (Kd.R_apart' (Kd.R_apart' (HO487.out) (Kd.R_typed HO484.out) (by decide)) (Kd.R_typed HO490.out) (by decide)) BK480.out (by decide)) BK481.out (by decide)).1 k_ hs_.symm).2) (fun hn_ => (Kd.freshB (g := gb481) (o := .cells #[.int .u8 a4_0, .int .u8 a4_1, .int .u8 a4_2] 24 (0, 0)) (by (with_reducible repeat (first | apply bN | apply bD | apply bA)); exact BK481.out) k_ hn_))⟩)) (below_size (by repeat (first | (with_reducible first | exact HB.out | apply lA | apply lN | apply lD | refine below_set ?_ GE480.out | refine below_set ?_ GE481.out) | exact HB.out)))); have n4_ := aS (blk_below (g := gb480) (o := .cells #[.int .i32 a1_0, .int .i32 a1_1, .int .i32 a1_2, .int .u8 a1_3, .int .u8 a1_4, .int .u8 a1_5, .int .u8 a1_6] 26 (0, 0)) (by (with_reducible repeat (first | apply bN | apply bD | apply bA)); exact BK480.out) hb); have n5_ := aS (blk_below (g := gb481) (o := .cells #[.int .u8 a4_0, .int .u8 a4_1, .int .u8 a4_2] 24 (0, 0)) (by (with_reducible repeat (first | apply bN | apply bD | apply bA)); exact BK481.out) hb); have n6_ := aS (below_step (by repeat (first | (with_reducible first | exact HB.out | apply lA | apply lN | apply lD | refine below_set ?_ GE480.out | refine below_set ?_ GE481.out) | exact HB.out)) hb); clear HO484; clear HO487; clear HO490; clear BK480; clear BK481; clear HB; have HO484 := n0_; have HO487 := n1_; have HO490 := n2_; have HO501 := n3_; have BK480 := n4_; have BK481 := n5_; have HB := n6_; clear n0_ n1_ n2_ n3_ n4_ n5_ n6_; (try clear hb); (try clear hb2); (try clear hk); (try clear hi); (try clear ho0)) | ((with_reducible refine gate_callee (f := 44) rfl ?_); refine goesL_ (some 45) rfl rfl Try.func44 (by kernel_rfl) rfl #[.slice Ao42 t482.length co42, .int .i64 a2, .int .i32 a5] rfl (by (try simp only [List.map_toArray, List.map_cons, List.map_nil]); first | done | rfl | (simp only [List.length_drop, List.length_take]; rfl)) ?_; (with_reducible refine (line_Mark.calls k _ _ t482 a2 a5 t503 t504 _ ?side1 ?side2 A12.out).mono ?_); (case side1 => repeat (first | exact (Kd.R_reads' HO484.out).2.2 | (with_reducible refine Kd.C_alloc ?_ _) | (with_reducible refine Kd.C_drewN ?_ _) | (with_reducible refine Kd.C_drew ?_))); (case side2 => exact (Kd.R_reads' HO484.out).2.1); rintro e w51 ⟨v505, rfl, ho0, hb⟩; refine ⟨_, rfl, ?_⟩; have n0_ := aS (Kd.R_elder' (by (with_reducible repeat (first | apply rA | apply rN | apply rD)); exact HO484.out) (Kd.R_base ho0) hb); have n1_ := aS (Kd.R_below (by (with_reducible repeat (first | apply rA | apply rN | apply rD)); exact HO487.out) hb); have n2_ := aS (Kd.R_elder' (by (with_reducible repeat (first | apply rA | apply rN | apply rD)); exact HO490.out) (Kd.R_base ho0) hb); have n3_ := aS (Kd.V_elder' (by (with_reducible repeat (first | apply Kd.V_alloc | apply Kd.V_drewN | apply Kd.V_drew)); exact HO501.out) (Kd.R_base ho0) hb); have n4_ := aS (Kd.R_lower (Kd.R_newB (Kd.R_new' (Kd.R_new' ho0 (Kd.R_lt (by (with_reducible repeat (first | apply rA | apply rN | apply rD)); exact HO484.out))) (Kd.R_lt (by (with_reducible repeat (first | apply rA | apply rN | apply rD)); exact HO490.out))) (g := gb480) (o := .cells #[.int .i32 a1_0, .int .i32 a1_1, .int .i32 a1_2, .int .u8 a1_3, .int .u8 a1_4, .int .u8 a1_5, .int .u8 a1_6] 26 (0, 0)) (by (with_reducible repeat (first | apply bN | apply bD | apply bA)); exact BK480.out)) (below_size (by repeat (first | (with_reducible first | exact HB.out | apply lA | apply lN | apply lD | refine below_set ?_ GE480.out | refine below_set ?_ GE481.out) | exact HB.out)))); have n5_ := aS (blk_below (g := gb480) (o := .cells #[.int .i32 a1_0, .int .i32 a1_1, .int .i32 a1_2, .int .u8 a1_3, .int .u8 a1_4, .int .u8 a1_5, .int .u8 a1_6] 26 (0, 0)) (by (with_reducible repeat (first | apply bN | apply bD | apply bA)); exact BK480.out) hb); have n6_ := aS (blk_below (g := gb481) (o := .cells #[.int .u8 a4_0, .int .u8 a4_1, .int .u8 a4_2] 24 (0, 0)) (by (with_reducible repeat (first | apply bN | apply bD | apply bA)); exact BK481.out) hb); have n7_ := aS (below_step (by repeat (first | (with_reducible first | exact HB.out | apply lA | apply lN | apply lD | refine below_set ?_ GE480.out | refine below_set ?_ GE481.out) | exact HB.out)) hb); clear HO484; clear HO487; clear HO490; clear HO501; clear BK480; clear BK481; clear HB; have HO484 := n0_; have HO487 := n1_; have HO490 := n2_; have HO501 := n3_; have HO506 := n4_; have BK480 := n5_; have BK481 := n6_; have HB := n7_; clear n0_ n1_ n2_ n3_ n4_ n5_ n6_ n7_; (try clear hb); (try clear hb2); (try clear hk); (try clear hi); (try clear ho0)) | ((with_reducible refine gate_callee (f := 45) rfl ?_); refine goesL_ (some 53) rfl rfl Try.func45 (by kernel_rfl) rfl #[.slice Ao49 t485.length co49, .int .i64 a2, .int .i64 (wrap64 (a5))] rfl (by (try simp only [List.map_toArray, List.map_cons, List.map_nil]); first | done | rfl | (simp only [List.length_drop, List.length_take]; rfl)) ?_; (with_reducible refine (prolepsisref06_Mark.calls k (fun k_ => some k_ = (.slice Ao49 t485.length co49 : Value).ownBlock) _ _ t485 a2 (wrap64 (a5)) t507 t510 _ ?side1 A13.out).mono ?_); (case side1 => exact Kd.R_V (Kd.R_tight rfl (Kd.R_types (Kd.R_types (Kd.R_apart' (Kd.R_apart' (Kd.R_apart' (HO487.out) (Kd.R_typed HO484.out) (by decide)) (Kd.R_typed HO490.out) (by decide)) (Kd.R_typed HO506.out) (by decide)) BK480.out (by decide)) BK481.out (by decide)))); rintro e w52 ⟨v508, rfl, ho0, hb⟩; refine ⟨_, rfl, ?_⟩; have n0_ := aS (Kd.R_below (by (with_reducible repeat (first | apply rA | apply rN | apply rD)); exact HO484.out) hb); have n1_ := aS (Kd.R_below (by (with_reducible repeat (first | apply rA | apply rN | apply rD)); exact HO487.out) hb); have n2_ := aS (Kd.R_below (by (with_reducible repeat (first | apply rA | apply rN | apply rD)); exact HO490.out) hb); have n3_ := aS (Kd.V_below (by (with_reducible repeat (first | apply Kd.V_alloc | apply Kd.V_drewN | apply Kd.V_drew)); exact HO501.out) hb); have n4_ := aS (Kd.R_below (by (with_reducible repeat (first | apply rA | apply rN | apply rD)); exact HO506.out) hb); have n5_ := aS (Kd.V_lower (Kd.V_mono (ok' := fun k_ => some k_ ≠ (.slice Ao42 t482.length co42 : Value).ownBlock ∧ some k_ ≠ (v489 : Value).ownBlock ∧ some k_ ≠ (v505 : Value).ownBlock ∧ k_ ≠ gb480 ∧ k_ ≠ gb481) ho0 (fun k_ hk_ => ⟨Or.elim hk_ (fun hs_ => ((Kd.R_types (Kd.R_types (Kd.R_apart' (Kd.R_apart' (Kd.R_apart' (HO487.out) (Kd.R_typed HO484.out) (by decide)) (Kd.R_typed HO490.out) (by decide)) (Kd.R_typed HO506.out) (by decide)) BK480.out (by decide)) BK481.out (by decide)).1 k_ hs_.symm).1.1.1.1.2) (fun hn_ => (Kd.fresh' (Kd.R_lt (by (with_reducible repeat (first | apply rA | apply rN | apply rD)); exact HO484.out)) k_ hn_)), Or.elim hk_ (fun hs_ => ((Kd.R_types (Kd.R_types (Kd.R_apart' (Kd.R_apart' (Kd.R_apart' (HO487.out) (Kd.R_typed HO484.out) (by decide)) (Kd.R_typed HO490.out) (by decide)) (Kd.R_typed HO506.out) (by decide)) BK480.out (by decide)) BK481.out (by decide)).1 k_ hs_.symm).1.1.1.2) (fun hn_ => (Kd.fresh' (Kd.R_lt (by (with_reducible repeat (first | apply rA | apply rN | apply rD)); exact HO490.out)) k_ hn_)), Or.elim hk_ (fun hs_ => ((Kd.R_types (Kd.R_types (Kd.R_apart' (Kd.R_apart' (Kd.R_apart' (HO487.out) (Kd.R_typed HO484.out) (by decide)) (Kd.R_typed HO490.out) (by decide)) (Kd.R_typed HO506.out) (by decide)) BK480.out (by decide)) BK481.out (by decide)).1 k_ hs_.symm).1.1.2) (fun hn_ => (Kd.fresh' (Kd.R_lt (by (with_reducible repeat (first | apply rA | apply rN | apply rD)); exact HO506.out)) k_ hn_)), Or.elim hk_ (fun hs_ => ((Kd.R_types (Kd.R_types (Kd.R_apart' (Kd.R_apart' (Kd.R_apart' (HO487.out) (Kd.R_typed HO484.out) (by decide)) (Kd.R_typed HO490.out) (by decide)) (Kd.R_typed HO506.out) (by decide)) BK480.out (by decide)) BK481.out (by decide)).1 k_ hs_.symm).1.2) (fun hn_ => (Kd.freshB (g := gb480) (o := .cells #[.int .i32 a1_0, .int .i32 a1_1, .int .i32 a1_2, .int .u8 a1_3, .int .u8 a1_4, .int .u8 a1_5, .int .u8 a1_6] 26 (0, 0)) (by (with_reducible repeat (first | apply bN | apply bD | apply bA)); exact BK480.out) k_ hn_)), Or.elim hk_ (fun hs_ => ((Kd.R_types (Kd.R_types (Kd.R_apart' (Kd.R_apart' (Kd.R_apart' (HO487.out) (Kd.R_typed HO484.out) (by decide)) (Kd.R_typed HO490.out) (by decide)) (Kd.R_typed HO506.out) (by decide)) BK480.out (by decide)) BK481.out (by decide)).1 k_ hs_.symm).2) (fun hn_ => (Kd.freshB (g := gb481) (o := .cells #[.int .u8 a4_0, .int .u8 a4_1, .int .u8 a4_2] 24 (0, 0)) (by (with_reducible repeat (first | apply bN | apply bD | apply bA)); exact BK481.out) k_ hn_))⟩)) (below_size (by repeat (first | (with_reducible first | exact HB.out | apply lA | apply lN | apply lD | refine below_set ?_ GE480.out | refine below_set ?_ GE481.out) | exact HB.out)))); have n6_ := aS (blk_below (g := gb480) (o := .cells #[.int .i32 a1_0, .int .i32 a1_1, .int .i32 a1_2, .int .u8 a1_3, .int .u8 a1_4, .int .u8 a1_5, .int .u8 a1_6] 26 (0, 0)) (by (with_reducible repeat (first | apply bN | apply bD | apply bA)); exact BK480.out) hb); have n7_ := aS (blk_below (g := gb481) (o := .cells #[.int .u8 a4_0, .int .u8 a4_1, .int .u8 a4_2] 24 (0, 0)) (by (with_reducible repeat (first | apply bN | apply bD | apply bA)); exact BK481.out) hb); have n8_ := aS (below_step (by repeat (first | (with_reducible first | exact HB.out | apply lA | apply lN | apply lD | refine below_set ?_ GE480.out | refine below_set ?_ GE481.out) | exact HB.out)) hb); clear HO484; clear HO487; clear HO490; clear HO501; clear HO506; clear BK480; clear BK481; clear HB; have HO484 := n0_; have HO487 := n1_; have HO490 := n2_; have HO501 := n3_; have HO506 := n4_; have HO509 := n5_; have BK480 := n6_; have BK481 := n7_; have HB := n8_; clear n0_ n1_ n2_ n3_ n4_ n5_ n6_ n7_ n8_; (try clear hb); (try clear hb2); (try clear hk); (try clear hi); (try clear ho0)))
                    have n0_ := aS (Kd.R_drew HO484.out)
                    have n1_ := aS (Kd.R_drew HO487.out)
                    have n2_ := aS (Kd.R_drew HO490.out)
                    have n3_ := aS (Kd.V_drew HO501.out)
                    have n4_ := aS (Kd.R_drew HO506.out)
                    have n5_ := aS (Kd.V_drew HO509.out)
                    have n6_ := aS (blk_drew BK480.out)
                    have n7_ := aS (blk_drew BK481.out)
                    have n8_ := aS (below_drew1 HB.out)
                    clear HO484
                    clear HO487
                    clear HO490
                    clear HO501
                    clear HO506
                    clear HO509
                    clear BK480
                    clear BK481
                    clear HB
                    have HO484 := n0_
                    have HO487 := n1_
                    have HO490 := n2_
                    have HO501 := n3_
                    have HO506 := n4_
                    have HO509 := n5_
                    have BK480 := n6_
                    have BK481 := n7_
                    have HB := n8_
                    clear n0_ n1_ n2_ n3_ n4_ n5_ n6_ n7_ n8_
                    refine start_ (n := 63) (S := fun w' => w'.cell? ⟨gb481, 0, none⟩ = some (.int .u8 a4_0) ∧ w'.cell? ⟨gb481, 1, none⟩ = some (.int .u8 a4_1) ∧ w'.cell? ⟨gb481, 2, none⟩ = some (.int .u8 a4_2)) (ds := []) (tf 0 63) (by kernel_rfl) rfl rfl ⟨(blk_cell BK481.out 0).trans rfl, (blk_cell BK481.out 1).trans rfl, (blk_cell BK481.out 2).trans rfl⟩ (fun hHeld => ?_); refine with_tabW prolepsislaw06_LineMakes.tab7 prolepsislaw06_LineMakes.bits7 (fun HT_ HW_ => ?_)
                    generalize w52.drew = w53 at HO484 HO487 HO490 HO501 HO506 HO509 BK480 BK481 HB hHeld ⊢
                    refine one_ (i := 0) (N := some 56) (tf 1 62) rfl rfl (one_of HT_.out (by kernel_rfl)) (by decide) (fun K hK => ?_)
                    refine goes_ Try.func41 (by kernel_rfl) rfl #[] (by rfl) rfl rfl (by (try simp only [List.map_toArray, List.map_cons, List.map_nil]); first | done | rfl | (simp only [List.length_drop, List.length_take]; rfl)) ?_
                    with_reducible refine (prolepsislaw06_known.calls  true _ A14.out).mono ?_
                    rintro e w54 ⟨rfl, hb⟩
                    refine ⟨_, rfl, ?_⟩
                    have n0_ := aS (Kd.R_below (by (with_reducible repeat (first | apply rA | apply rN | apply rD)); exact HO484.out) hb)
                    have n1_ := aS (Kd.R_below (by (with_reducible repeat (first | apply rA | apply rN | apply rD)); exact HO487.out) hb)
                    have n2_ := aS (Kd.R_below (by (with_reducible repeat (first | apply rA | apply rN | apply rD)); exact HO490.out) hb)
                    have n3_ := aS (Kd.V_below (by (with_reducible repeat (first | apply Kd.V_alloc | apply Kd.V_drewN | apply Kd.V_drew)); exact HO501.out) hb)
                    have n4_ := aS (Kd.R_below (by (with_reducible repeat (first | apply rA | apply rN | apply rD)); exact HO506.out) hb)
                    have n5_ := aS (Kd.V_below (by (with_reducible repeat (first | apply Kd.V_alloc | apply Kd.V_drewN | apply Kd.V_drew)); exact HO509.out) hb)
                    have n6_ := aS (blk_below (g := gb480) (o := .cells #[.int .i32 a1_0, .int .i32 a1_1, .int .i32 a1_2, .int .u8 a1_3, .int .u8 a1_4, .int .u8 a1_5, .int .u8 a1_6] 26 (0, 0)) (by (with_reducible repeat (first | apply bN | apply bD | apply bA)); exact BK480.out) hb)
                    have n7_ := aS (blk_below (g := gb481) (o := .cells #[.int .u8 a4_0, .int .u8 a4_1, .int .u8 a4_2] 24 (0, 0)) (by (with_reducible repeat (first | apply bN | apply bD | apply bA)); exact BK481.out) hb)
                    have n8_ := aS (below_step (by repeat (first | (with_reducible first | exact HB.out | apply lA | apply lN | apply lD | refine below_set ?_ GE480.out | refine below_set ?_ GE481.out) | exact HB.out)) hb)
                    clear HO484
                    clear HO487
                    clear HO490
                    clear HO501
                    clear HO506
                    clear HO509
                    clear BK480
                    clear BK481
                    clear HB
                    have HO484 := n0_
                    have HO487 := n1_
                    have HO490 := n2_
                    have HO501 := n3_
                    have HO506 := n4_
                    have HO509 := n5_
                    have BK480 := n6_
                    have BK481 := n7_
                    have HB := n8_
                    clear n0_ n1_ n2_ n3_ n4_ n5_ n6_ n7_ n8_
                    (try clear hb)
                    (try clear hb2)
                    (try clear hk)
                    (try clear hi)
                    obtain ⟨Ao55, co55, eo55⟩ := Kd.R_slice HO490.out
                    (first | subst eo55 | (injection eo55 with f1_ f2_ f3_; have f4_ := f1_.symm; have f5_ := f3_.symm; clear f1_ f2_ f3_; subst f4_; subst f5_))
                    obtain ⟨Ao56, co56, eo56⟩ := Kd.V_slice HO501.out
                    (first | subst eo56 | (injection eo56 with f1_ f2_ f3_; have f4_ := f1_.symm; have f5_ := f3_.symm; clear f1_ f2_ f3_; subst f4_; subst f5_))
                    refine hK.out _ _ ⟨(blk_cell BK481.out 0).trans rfl, (blk_cell BK481.out 1).trans rfl, (blk_cell BK481.out 2).trans rfl⟩ (fun hHeld => ?_)
                    clear hK K
                    refine norm_ (a' := ?_) ?_ ?_
                    rotate_left
                    · show Act.put _ (some 56) _ = _
                      simp only [Act.put, List.setIfInBounds_toArray, List.set_cons_zero, List.set_cons_succ, i64_w, i32_w]
                      rfl
                    refine pure_ (i := 1) (N := some 57) (v := ?_) (a' := ?_) (tf 2 61) rfl rfl (any_of HT_.out (by kernel_rfl)) (fun _ _ _ h => h) (Or.inl ⟨by rfl, ?_⟩) ?_ ?_
                    rotate_left
                    · intro w'
                      go_simp
                      with_reducible rfl
                    rotate_left
                    · simp only [Act.put, List.setIfInBounds_toArray, List.set_cons_zero, List.set_cons_succ, i64_w, i32_w]
                      rfl
                    refine pure_ (i := 2) (N := some 58) (v := ?_) (a' := ?_) (tf 3 60) rfl rfl (any_of HT_.out (by kernel_rfl)) (fun _ _ _ h => h) (Or.inl ⟨by rfl, ?_⟩) ?_ ?_
                    rotate_left
                    · intro w'
                      go_simp
                      with_reducible rfl
                    rotate_left
                    · simp only [Act.put, List.setIfInBounds_toArray, List.set_cons_zero, List.set_cons_succ, i64_w, i32_w]
                      rfl
                    refine pure_ (i := 3) (N := some 59) (v := ?_) (a' := ?_) (tf 4 59) rfl rfl (any_of HT_.out (by kernel_rfl)) (fun _ _ _ h => h) (Or.inl ⟨by rfl, ?_⟩) ?_ ?_
                    rotate_left
                    · intro w'
                      go_simp
                      with_reducible rfl
                    rotate_left
                    · simp only [Act.put, List.setIfInBounds_toArray, List.set_cons_zero, List.set_cons_succ, i64_w, i32_w]
                      rfl
                    refine one_ (i := 4) (N := some 60) (tf 5 58) rfl rfl (one_of HT_.out (by kernel_rfl)) (by decide) (fun K hK => ?_)
                    refine goes_ Try.func46 (by kernel_rfl) rfl #[.slice Ao55 t488.length co55, .slice Ao56 t499.length co56] (by rfl) rfl rfl (by (try simp only [List.map_toArray, List.map_cons, List.map_nil]); first | done | rfl | (simp only [List.length_drop, List.length_take]; rfl)) ?_
                    with_reducible refine (prolepsislaw06_Same.calls k _ _ t488 _ _ t499 true _ ?side1 ?side2 ?side3 ?side4 A16.out).mono ?_
                    (case side1 => repeat (first | exact (Kd.R_reads' HO490.out).2.2 | (with_reducible refine Kd.C_alloc ?_ _) | (with_reducible refine Kd.C_drewN ?_ _) | (with_reducible refine Kd.C_drew ?_)))
                    (case side2 => exact (Kd.R_reads' HO490.out).2.1)
                    (case side3 => repeat (first | exact (Kd.V_reads' HO501.out).2.2 | (with_reducible refine Kd.C_alloc ?_ _) | (with_reducible refine Kd.C_drewN ?_ _) | (with_reducible refine Kd.C_drew ?_)))
                    (case side4 => exact (Kd.V_reads' HO501.out).2.1)
                    rintro e w57 ⟨rfl, hb⟩
                    refine ⟨_, rfl, ?_⟩
                    have n0_ := aS (Kd.R_below (by (with_reducible repeat (first | apply rA | apply rN | apply rD)); exact HO484.out) hb)
                    have n1_ := aS (Kd.R_below (by (with_reducible repeat (first | apply rA | apply rN | apply rD)); exact HO487.out) hb)
                    have n2_ := aS (Kd.R_below (by (with_reducible repeat (first | apply rA | apply rN | apply rD)); exact HO490.out) hb)
                    have n3_ := aS (Kd.V_below (by (with_reducible repeat (first | apply Kd.V_alloc | apply Kd.V_drewN | apply Kd.V_drew)); exact HO501.out) hb)
                    have n4_ := aS (Kd.R_below (by (with_reducible repeat (first | apply rA | apply rN | apply rD)); exact HO506.out) hb)
                    have n5_ := aS (Kd.V_below (by (with_reducible repeat (first | apply Kd.V_alloc | apply Kd.V_drewN | apply Kd.V_drew)); exact HO509.out) hb)
                    have n6_ := aS (blk_below (g := gb480) (o := .cells #[.int .i32 a1_0, .int .i32 a1_1, .int .i32 a1_2, .int .u8 a1_3, .int .u8 a1_4, .int .u8 a1_5, .int .u8 a1_6] 26 (0, 0)) (by (with_reducible repeat (first | apply bN | apply bD | apply bA)); exact BK480.out) hb)
                    have n7_ := aS (blk_below (g := gb481) (o := .cells #[.int .u8 a4_0, .int .u8 a4_1, .int .u8 a4_2] 24 (0, 0)) (by (with_reducible repeat (first | apply bN | apply bD | apply bA)); exact BK481.out) hb)
                    have n8_ := aS (below_step (by repeat (first | (with_reducible first | exact HB.out | apply lA | apply lN | apply lD | refine below_set ?_ GE480.out | refine below_set ?_ GE481.out) | exact HB.out)) hb)
                    clear HO484
                    clear HO487
                    clear HO490
                    clear HO501
                    clear HO506
                    clear HO509
                    clear BK480
                    clear BK481
                    clear HB
                    have HO484 := n0_
                    have HO487 := n1_
                    have HO490 := n2_
                    have HO501 := n3_
                    have HO506 := n4_
                    have HO509 := n5_
                    have BK480 := n6_
                    have BK481 := n7_
                    have HB := n8_
                    clear n0_ n1_ n2_ n3_ n4_ n5_ n6_ n7_ n8_
                    (try clear hb)
                    (try clear hb2)
                    (try clear hk)
                    (try clear hi)
                    obtain ⟨Ao58, co58, eo58⟩ := Kd.R_slice HO506.out
                    (first | subst eo58 | (injection eo58 with f1_ f2_ f3_; have f4_ := f1_.symm; have f5_ := f3_.symm; clear f1_ f2_ f3_; subst f4_; subst f5_))
                    obtain ⟨Ao59, co59, eo59⟩ := Kd.V_slice HO509.out
                    (first | subst eo59 | (injection eo59 with f1_ f2_ f3_; have f4_ := f1_.symm; have f5_ := f3_.symm; clear f1_ f2_ f3_; subst f4_; subst f5_))
                    refine hK.out _ _ ⟨(blk_cell BK481.out 0).trans rfl, (blk_cell BK481.out 1).trans rfl, (blk_cell BK481.out 2).trans rfl⟩ (fun hHeld => ?_)
                    clear hK K
                    refine norm_ (a' := ?_) ?_ ?_
                    rotate_left
                    · show Act.put _ (some 60) _ = _
                      simp only [Act.put, List.setIfInBounds_toArray, List.set_cons_zero, List.set_cons_succ, i64_w, i32_w]
                      rfl
                    refine pure_ (i := 5) (N := some 61) (v := ?_) (a' := ?_) (tf 6 57) rfl rfl (any_of HT_.out (by kernel_rfl)) (fun _ _ _ h => h) (Or.inl ⟨by rfl, ?_⟩) ?_ ?_
                    rotate_left
                    · intro w'
                      go_simp
                      with_reducible rfl
                    rotate_left
                    · simp only [Act.put, List.setIfInBounds_toArray, List.set_cons_zero, List.set_cons_succ, i64_w, i32_w]
                      rfl
                    refine pure_ (i := 6) (N := some 62) (v := ?_) (a' := ?_) (tf 7 56) rfl rfl (any_of HT_.out (by kernel_rfl)) (fun _ _ _ h => h) (Or.inl ⟨by rfl, ?_⟩) ?_ ?_
                    rotate_left
                    · intro w'
                      go_simp
                      with_reducible rfl
                    rotate_left
                    · simp only [Act.put, List.setIfInBounds_toArray, List.set_cons_zero, List.set_cons_succ, i64_w, i32_w]
                      rfl
                    refine pure_ (i := 7) (N := some 63) (v := ?_) (a' := ?_) (tf 8 55) rfl rfl (any_of HT_.out (by kernel_rfl)) (fun _ _ _ h => h) (Or.inl ⟨by rfl, ?_⟩) ?_ ?_
                    rotate_left
                    · intro w'
                      go_simp
                      with_reducible rfl
                    rotate_left
                    · simp only [Act.put, List.setIfInBounds_toArray, List.set_cons_zero, List.set_cons_succ, i64_w, i32_w]
                      rfl
                    refine pure_ (i := 8) (N := some 64) (v := ?_) (a' := ?_) (tf 9 54) rfl rfl (any_of HT_.out (by kernel_rfl)) (fun _ _ _ h => h) (Or.inl ⟨by rfl, ?_⟩) ?_ ?_
                    rotate_left
                    · intro w'
                      go_simp
                      with_reducible rfl
                    rotate_left
                    · simp only [Act.put, List.setIfInBounds_toArray, List.set_cons_zero, List.set_cons_succ, i64_w, i32_w]
                      rfl
                    refine pure_ (i := 9) (N := some 65) (v := ?_) (a' := ?_) (tf 10 53) rfl rfl (any_of HT_.out (by kernel_rfl)) (fun _ _ _ h => h) (Or.inl ⟨by rfl, ?_⟩) ?_ ?_
                    rotate_left
                    · intro w'
                      go_simp
                      with_reducible rfl
                    rotate_left
                    · simp only [Act.put, List.setIfInBounds_toArray, List.set_cons_zero, List.set_cons_succ, i64_w, i32_w]
                      rfl
                    refine pure_ (i := 10) (N := some 66) (v := ?_) (a' := ?_) (tf 11 52) rfl rfl (any_of HT_.out (by kernel_rfl)) (fun _ _ _ h => h) (Or.inl ⟨by rfl, ?_⟩) ?_ ?_
                    rotate_left
                    · intro w'
                      go_simp
                      with_reducible rfl
                    rotate_left
                    · simp only [Act.put, List.setIfInBounds_toArray, List.set_cons_zero, List.set_cons_succ, i64_w, i32_w]
                      rfl
                    refine pure_ (i := 11) (N := some 67) (v := ?_) (a' := ?_) (tf 12 51) rfl rfl (any_of HT_.out (by kernel_rfl)) (fun _ _ _ h => h) (Or.inl ⟨by rfl, ?_⟩) ?_ ?_
                    rotate_left
                    · intro w'
                      go_simp
                      with_reducible rfl
                    rotate_left
                    · simp only [Act.put, List.setIfInBounds_toArray, List.set_cons_zero, List.set_cons_succ, i64_w, i32_w]
                      rfl
                    refine pure_ (i := 12) (N := some 68) (v := ?_) (a' := ?_) (tf 13 50) rfl rfl (any_of HT_.out (by kernel_rfl)) (fun _ _ _ h => h) (Or.inl ⟨by rfl, ?_⟩) ?_ ?_
                    rotate_left
                    · intro w'
                      go_simp
                      with_reducible rfl
                    rotate_left
                    · simp only [Act.put, List.setIfInBounds_toArray, List.set_cons_zero, List.set_cons_succ, i64_w, i32_w]
                      rfl
                    refine pure_ (i := 13) (N := some 69) (v := ?_) (a' := ?_) (tf 14 49) rfl rfl (any_of HT_.out (by kernel_rfl)) (fun _ _ _ h => h) (Or.inl ⟨by rfl, ?_⟩) ?_ ?_
                    rotate_left
                    · intro w'
                      go_simp
                      with_reducible rfl
                    rotate_left
                    · simp only [Act.put, List.setIfInBounds_toArray, List.set_cons_zero, List.set_cons_succ, i64_w, i32_w]
                      rfl
                    refine one_ (i := 14) (N := some 70) (tf 15 48) rfl rfl (one_of HT_.out (by kernel_rfl)) (by decide) (fun K hK => ?_)
                    refine goes_ Try.func46 (by kernel_rfl) rfl #[.slice Ao58 t503.length co58, .slice Ao59 t507.length co59] (by rfl) rfl rfl (by (try simp only [List.map_toArray, List.map_cons, List.map_nil]); first | done | rfl | (simp only [List.length_drop, List.length_take]; rfl)) ?_
                    with_reducible refine (prolepsislaw06_Same.calls k _ _ t503 _ _ t507 true _ ?side1 ?side2 ?side3 ?side4 A19.out).mono ?_
                    (case side1 => repeat (first | exact (Kd.R_reads' HO506.out).2.2 | (with_reducible refine Kd.C_alloc ?_ _) | (with_reducible refine Kd.C_drewN ?_ _) | (with_reducible refine Kd.C_drew ?_)))
                    (case side2 => exact (Kd.R_reads' HO506.out).2.1)
                    (case side3 => repeat (first | exact (Kd.V_reads' HO509.out).2.2 | (with_reducible refine Kd.C_alloc ?_ _) | (with_reducible refine Kd.C_drewN ?_ _) | (with_reducible refine Kd.C_drew ?_)))
                    (case side4 => exact (Kd.V_reads' HO509.out).2.1)
                    rintro e w60 ⟨rfl, hb⟩
                    refine ⟨_, rfl, ?_⟩
                    have n0_ := aS (Kd.R_below (by (with_reducible repeat (first | apply rA | apply rN | apply rD)); exact HO484.out) hb)
                    have n1_ := aS (Kd.R_below (by (with_reducible repeat (first | apply rA | apply rN | apply rD)); exact HO487.out) hb)
                    have n2_ := aS (Kd.R_below (by (with_reducible repeat (first | apply rA | apply rN | apply rD)); exact HO490.out) hb)
                    have n3_ := aS (Kd.V_below (by (with_reducible repeat (first | apply Kd.V_alloc | apply Kd.V_drewN | apply Kd.V_drew)); exact HO501.out) hb)
                    have n4_ := aS (Kd.R_below (by (with_reducible repeat (first | apply rA | apply rN | apply rD)); exact HO506.out) hb)
                    have n5_ := aS (Kd.V_below (by (with_reducible repeat (first | apply Kd.V_alloc | apply Kd.V_drewN | apply Kd.V_drew)); exact HO509.out) hb)
                    have n6_ := aS (blk_below (g := gb480) (o := .cells #[.int .i32 a1_0, .int .i32 a1_1, .int .i32 a1_2, .int .u8 a1_3, .int .u8 a1_4, .int .u8 a1_5, .int .u8 a1_6] 26 (0, 0)) (by (with_reducible repeat (first | apply bN | apply bD | apply bA)); exact BK480.out) hb)
                    have n7_ := aS (blk_below (g := gb481) (o := .cells #[.int .u8 a4_0, .int .u8 a4_1, .int .u8 a4_2] 24 (0, 0)) (by (with_reducible repeat (first | apply bN | apply bD | apply bA)); exact BK481.out) hb)
                    have n8_ := aS (below_step (by repeat (first | (with_reducible first | exact HB.out | apply lA | apply lN | apply lD | refine below_set ?_ GE480.out | refine below_set ?_ GE481.out) | exact HB.out)) hb)
                    clear HO484
                    clear HO487
                    clear HO490
                    clear HO501
                    clear HO506
                    clear HO509
                    clear BK480
                    clear BK481
                    clear HB
                    have HO484 := n0_
                    have HO487 := n1_
                    have HO490 := n2_
                    have HO501 := n3_
                    have HO506 := n4_
                    have HO509 := n5_
                    have BK480 := n6_
                    have BK481 := n7_
                    have HB := n8_
                    clear n0_ n1_ n2_ n3_ n4_ n5_ n6_ n7_ n8_
                    (try clear hb)
                    (try clear hb2)
                    (try clear hk)
                    (try clear hi)
                    refine hK.out _ _ ⟨(blk_cell BK481.out 0).trans rfl, (blk_cell BK481.out 1).trans rfl, (blk_cell BK481.out 2).trans rfl⟩ (fun hHeld => ?_)
                    clear hK K
                    refine norm_ (a' := ?_) ?_ ?_
                    rotate_left
                    · show Act.put _ (some 70) _ = _
                      simp only [Act.put, List.setIfInBounds_toArray, List.set_cons_zero, List.set_cons_succ, i64_w, i32_w]
                      rfl
                    refine pure_ (i := 15) (N := some 71) (v := ?_) (a' := ?_) (tf 16 47) rfl rfl (any_of HT_.out (by kernel_rfl)) (fun _ _ _ h => h) (Or.inl ⟨by rfl, ?_⟩) ?_ ?_
                    rotate_left
                    · intro w'
                      go_simp
                      with_reducible rfl
                    rotate_left
                    · simp only [Act.put, List.setIfInBounds_toArray, List.set_cons_zero, List.set_cons_succ, i64_w, i32_w]
                      rfl
                    refine pure_ (i := 16) (N := some 72) (v := ?_) (a' := ?_) (tf 17 46) rfl rfl (any_of HT_.out (by kernel_rfl)) (fun _ _ _ h => h) (Or.inl ⟨by rfl, ?_⟩) ?_ ?_
                    rotate_left
                    · intro w'
                      go_simp
                      with_reducible rfl
                    rotate_left
                    · simp only [Act.put, List.setIfInBounds_toArray, List.set_cons_zero, List.set_cons_succ, i64_w, i32_w]
                      rfl
                    refine pure_ (i := 17) (N := some 73) (v := ?_) (a' := ?_) (tf 18 45) rfl rfl (any_of HT_.out (by kernel_rfl)) (fun _ _ _ h => h) (Or.inl ⟨by rfl, ?_⟩) ?_ ?_
                    rotate_left
                    · intro w'
                      go_simp
                      with_reducible rfl
                    rotate_left
                    · simp only [Act.put, List.setIfInBounds_toArray, List.set_cons_zero, List.set_cons_succ, i64_w, i32_w]
                      rfl
                    refine pure_ (i := 18) (N := some 74) (v := ?_) (a' := ?_) (tf 19 44) rfl rfl (any_of HT_.out (by kernel_rfl)) (fun _ _ _ h => h) (Or.inl ⟨by rfl, ?_⟩) ?_ ?_
                    rotate_left
                    · intro w'
                      go_simp
                      with_reducible rfl
                    rotate_left
                    · simp only [Act.put, List.setIfInBounds_toArray, List.set_cons_zero, List.set_cons_succ, i64_w, i32_w]
                      rfl
                    refine pure_ (i := 19) (N := some 75) (v := ?_) (a' := ?_) (tf 20 43) rfl rfl (any_of HT_.out (by kernel_rfl)) (fun _ _ _ h => h) (Or.inl ⟨by rfl, ?_⟩) ?_ ?_
                    rotate_left
                    · intro w'
                      go_simp
                      with_reducible rfl
                    rotate_left
                    · simp only [Act.put, List.setIfInBounds_toArray, List.set_cons_zero, List.set_cons_succ, i64_w, i32_w]
                      rfl
                    refine pure_ (i := 20) (N := some 76) (v := ?_) (a' := ?_) (tf 21 42) rfl rfl (any_of HT_.out (by kernel_rfl)) (fun _ _ _ h => h) (Or.inl ⟨by rfl, ?_⟩) ?_ ?_
                    rotate_left
                    · intro w'
                      go_simp
                      with_reducible rfl
                    rotate_left
                    · simp only [Act.put, List.setIfInBounds_toArray, List.set_cons_zero, List.set_cons_succ, i64_w, i32_w]
                      rfl
                    refine pure_ (i := 21) (N := some 77) (v := ?_) (a' := ?_) (tf 22 41) rfl rfl (any_of HT_.out (by kernel_rfl)) (fun _ _ _ h => h) (Or.inl ⟨by rfl, ?_⟩) ?_ ?_
                    rotate_left
                    · intro w'
                      go_simp
                      with_reducible rfl
                    rotate_left
                    · simp only [Act.put, List.setIfInBounds_toArray, List.set_cons_zero, List.set_cons_succ, i64_w, i32_w]
                      rfl
                    refine pure_ (i := 22) (N := some 78) (v := ?_) (a' := ?_) (tf 23 40) rfl rfl (any_of HT_.out (by kernel_rfl)) (fun _ _ _ h => h) (Or.inl ⟨by rfl, ?_⟩) ?_ ?_
                    rotate_left
                    · intro w'
                      go_simp
                      with_reducible rfl
                    rotate_left
                    · simp only [Act.put, List.setIfInBounds_toArray, List.set_cons_zero, List.set_cons_succ, i64_w, i32_w]
                      rfl
                    refine pure_ (i := 23) (N := some 79) (v := ?_) (a' := ?_) (tf 24 39) rfl rfl (any_of HT_.out (by kernel_rfl)) (fun _ _ _ h => h) (Or.inl ⟨by rfl, ?_⟩) ?_ ?_
                    rotate_left
                    · intro w'
                      go_simp
                      with_reducible rfl
                    rotate_left
                    · simp only [Act.put, List.setIfInBounds_toArray, List.set_cons_zero, List.set_cons_succ, i64_w, i32_w]
                      rfl
                    refine pure_ (i := 24) (N := some 80) (v := ?_) (a' := ?_) (tf 25 38) rfl rfl (any_of HT_.out (by kernel_rfl)) (fun _ _ _ h => h) (Or.inl ⟨by rfl, ?_⟩) ?_ ?_
                    rotate_left
                    · intro w'
                      go_simp
                      with_reducible rfl
                    rotate_left
                    · simp only [Act.put, List.setIfInBounds_toArray, List.set_cons_zero, List.set_cons_succ, i64_w, i32_w]
                      rfl
                    refine pure_ (i := 27) (N := some 83) (v := ?_) (a' := ?_) #[true, true, true, true, true, true, true, true, true, true, true, true, true, true, true, true, true, true, true, true, true, true, true, true, true, false, false, true, false, false, false, false, false, false, false, false, false, false, false, false, false, false, false, false, false, false, false, false, false, false, false, false, false, false, false, false, false, false, false, false, false, false, false] rfl rfl (any_of HT_.out (by kernel_rfl)) (fun _ _ _ h => h) (Or.inl ⟨by rfl, ?_⟩) ?_ ?_
                    rotate_left
                    · intro w'
                      go_simp
                      with_reducible rfl
                    rotate_left
                    · simp only [Act.put, List.setIfInBounds_toArray, List.set_cons_zero, List.set_cons_succ, i64_w, i32_w]
                      rfl
                    refine pure_ (i := 28) (N := some 84) (v := ?_) (a' := ?_) #[true, true, true, true, true, true, true, true, true, true, true, true, true, true, true, true, true, true, true, true, true, true, true, true, true, false, false, true, true, false, false, false, false, false, false, false, false, false, false, false, false, false, false, false, false, false, false, false, false, false, false, false, false, false, false, false, false, false, false, false, false, false, false] rfl rfl (any_of HT_.out (by kernel_rfl)) (fun _ _ _ h => h) (Or.inl ⟨by rfl, ?_⟩) ?_ ?_
                    rotate_left
                    · intro w'
                      go_simp
                      with_reducible rfl
                    rotate_left
                    · simp only [Act.put, List.setIfInBounds_toArray, List.set_cons_zero, List.set_cons_succ, i64_w, i32_w]
                      rfl
                    refine pure_ (i := 29) (N := some 85) (v := ?_) (a' := ?_) #[true, true, true, true, true, true, true, true, true, true, true, true, true, true, true, true, true, true, true, true, true, true, true, true, true, false, false, true, true, true, false, false, false, false, false, false, false, false, false, false, false, false, false, false, false, false, false, false, false, false, false, false, false, false, false, false, false, false, false, false, false, false, false] rfl rfl (any_of HT_.out (by kernel_rfl)) (fun _ _ _ h => h) (Or.inl ⟨by rfl, ?_⟩) ?_ ?_
                    rotate_left
                    · intro w'
                      go_simp
                      with_reducible rfl
                    rotate_left
                    · simp only [Act.put, List.setIfInBounds_toArray, List.set_cons_zero, List.set_cons_succ, i64_w, i32_w]
                      rfl
                    refine take_ (i := 25) (N := some 81) (v := ?_) (a' := ?_) #[true, true, true, true, true, true, true, true, true, true, true, true, true, true, true, true, true, true, true, true, true, true, true, true, true, true, false, true, true, true, false, false, false, false, false, false, false, false, false, false, false, false, false, false, false, false, false, false, false, false, false, false, false, false, false, false, false, false, false, false, false, false, false] rfl rfl (take_ofW HT_.out HW_.out (by kernel_rfl)) (fun _ _ _ h => h) (Or.inl ⟨by rfl, ?_⟩) hHeld ?_ ?_
                    rotate_left
                    · rintro w' ⟨s0, s1, s2⟩
                      go_simp
                      with_reducible rfl
                    rotate_left
                    · simp only [Act.put, List.setIfInBounds_toArray, List.set_cons_zero, List.set_cons_succ, i64_w, i32_w]
                      rfl
                    refine take_ (i := 30) (N := some 86) (v := ?_) (a' := ?_) #[true, true, true, true, true, true, true, true, true, true, true, true, true, true, true, true, true, true, true, true, true, true, true, true, true, true, false, true, true, true, true, false, false, false, false, false, false, false, false, false, false, false, false, false, false, false, false, false, false, false, false, false, false, false, false, false, false, false, false, false, false, false, false] rfl rfl (take_ofW HT_.out HW_.out (by kernel_rfl)) (fun _ _ _ h => h) (Or.inl ⟨by rfl, ?_⟩) hHeld ?_ ?_
                    rotate_left
                    · rintro w' ⟨s0, s1, s2⟩
                      go_simp
                      with_reducible rfl
                    rotate_left
                    · simp only [Act.put, List.setIfInBounds_toArray, List.set_cons_zero, List.set_cons_succ, i64_w, i32_w]
                      rfl
                    refine one_ (i := 26) (N := some 82) (tf 31 32) rfl rfl (one_of HT_.out (by kernel_rfl)) (by decide) (fun K hK => ?_)
                    refine goes_ Try.func40 (by kernel_rfl) rfl #[.slice Ao42 t482.length co42, .int .i64 a2, .int .i64 a3, .agg #[.int .u8 a4_0, .int .u8 a4_1, .int .u8 a4_2]] (by rfl) rfl rfl (by (try simp only [List.map_toArray, List.map_cons, List.map_nil]); first | done | rfl | (simp only [List.length_drop, List.length_take]; rfl)) ?_
                    with_reducible refine (line_Erase.calls k _ _ t482 a2 a3 a4_0 a4_1 a4_2 t514 _ ?side1 ?side2 A22.out).mono ?_
                    (case side1 => repeat (first | exact (Kd.R_reads' HO484.out).2.2 | (with_reducible refine Kd.C_alloc ?_ _) | (with_reducible refine Kd.C_drewN ?_ _) | (with_reducible refine Kd.C_drew ?_)))
                    (case side2 => exact (Kd.R_reads' HO484.out).2.1)
                    rintro e w61 ⟨v515, rfl, ho0, hb⟩
                    refine ⟨_, rfl, ?_⟩
                    have n0_ := aS (Kd.R_elder' (by (with_reducible repeat (first | apply rA | apply rN | apply rD)); exact HO484.out) (Kd.R_base ho0) hb)
                    have n1_ := aS (Kd.R_below (by (with_reducible repeat (first | apply rA | apply rN | apply rD)); exact HO487.out) hb)
                    have n2_ := aS (Kd.R_elder' (by (with_reducible repeat (first | apply rA | apply rN | apply rD)); exact HO490.out) (Kd.R_base ho0) hb)
                    have n3_ := aS (Kd.V_elder' (by (with_reducible repeat (first | apply Kd.V_alloc | apply Kd.V_drewN | apply Kd.V_drew)); exact HO501.out) (Kd.R_base ho0) hb)
                    have n4_ := aS (Kd.R_elder' (by (with_reducible repeat (first | apply rA | apply rN | apply rD)); exact HO506.out) (Kd.R_base ho0) hb)
                    have n5_ := aS (Kd.V_elder' (by (with_reducible repeat (first | apply Kd.V_alloc | apply Kd.V_drewN | apply Kd.V_drew)); exact HO509.out) (Kd.R_base ho0) hb)
                    have n6_ := aS (Kd.R_lower (Kd.R_newB (Kd.R_new' (Kd.R_new' (Kd.R_new' ho0 (Kd.R_lt (by (with_reducible repeat (first | apply rA | apply rN | apply rD)); exact HO484.out))) (Kd.R_lt (by (with_reducible repeat (first | apply rA | apply rN | apply rD)); exact HO490.out))) (Kd.R_lt (by (with_reducible repeat (first | apply rA | apply rN | apply rD)); exact HO506.out))) (g := gb480) (o := .cells #[.int .i32 a1_0, .int .i32 a1_1, .int .i32 a1_2, .int .u8 a1_3, .int .u8 a1_4, .int .u8 a1_5, .int .u8 a1_6] 26 (0, 0)) (by (with_reducible repeat (first | apply bN | apply bD | apply bA)); exact BK480.out)) (below_size (by repeat (first | (with_reducible first | exact HB.out | apply lA | apply lN | apply lD | refine below_set ?_ GE480.out | refine below_set ?_ GE481.out) | exact HB.out))))
                    have n7_ := aS (blk_below (g := gb480) (o := .cells #[.int .i32 a1_0, .int .i32 a1_1, .int .i32 a1_2, .int .u8 a1_3, .int .u8 a1_4, .int .u8 a1_5, .int .u8 a1_6] 26 (0, 0)) (by (with_reducible repeat (first | apply bN | apply bD | apply bA)); exact BK480.out) hb)
                    have n8_ := aS (blk_below (g := gb481) (o := .cells #[.int .u8 a4_0, .int .u8 a4_1, .int .u8 a4_2] 24 (0, 0)) (by (with_reducible repeat (first | apply bN | apply bD | apply bA)); exact BK481.out) hb)
                    have n9_ := aS (below_step (by repeat (first | (with_reducible first | exact HB.out | apply lA | apply lN | apply lD | refine below_set ?_ GE480.out | refine below_set ?_ GE481.out) | exact HB.out)) hb)
                    clear HO484
                    clear HO487
                    clear HO490
                    clear HO501
                    clear HO506
                    clear HO509
                    clear BK480
                    clear BK481
                    clear HB
                    have HO484 := n0_
                    have HO487 := n1_
                    have HO490 := n2_
                    have HO501 := n3_
                    have HO506 := n4_
                    have HO509 := n5_
                    have HO516 := n6_
                    have BK480 := n7_
                    have BK481 := n8_
                    have HB := n9_
                    clear n0_ n1_ n2_ n3_ n4_ n5_ n6_ n7_ n8_ n9_
                    (try clear hb)
                    (try clear hb2)
                    (try clear hk)
                    (try clear hi)
                    (try clear ho0)
                    refine hK.out _ _ ⟨(blk_cell BK481.out 0).trans rfl, (blk_cell BK481.out 1).trans rfl, (blk_cell BK481.out 2).trans rfl⟩ (fun hHeld => ?_)
                    clear hK K
                    refine norm_ (a' := ?_) ?_ ?_
                    rotate_left
                    · show Act.put _ (some 82) _ = _
                      simp only [Act.put, List.setIfInBounds_toArray, List.set_cons_zero, List.set_cons_succ, i64_w, i32_w]
                      rfl
                    refine one_ (i := 31) (N := some 87) (tf 32 31) rfl rfl (one_of HT_.out (by kernel_rfl)) (by decide) (fun K hK => ?_)
                    refine goes_ Try.func47 (by kernel_rfl) rfl #[.slice Ao49 t485.length co49, .int .i64 a2, .int .i64 a3, .agg #[.int .u8 a4_0, .int .u8 a4_1, .int .u8 a4_2]] (by rfl) rfl rfl (by (try simp only [List.map_toArray, List.map_cons, List.map_nil]); first | done | rfl | (simp only [List.length_drop, List.length_take]; rfl)) ?_
                    with_reducible refine (prolepsisref06_Erase.calls k _ _ t485 a2 a3 a4_0 a4_1 a4_2 t517 _ ?side1 ?side2 A23.out).mono ?_
                    (case side1 => repeat (first | exact (Kd.R_reads' HO487.out).2.2 | (with_reducible refine Kd.C_alloc ?_ _) | (with_reducible refine Kd.C_drewN ?_ _) | (with_reducible refine Kd.C_drew ?_)))
                    (case side2 => exact (Kd.R_reads' HO487.out).2.1)
                    rintro e w62 ⟨v518, rfl, ho0, hb⟩
                    refine ⟨_, rfl, ?_⟩
                    have n0_ := aS (Kd.R_below (by (with_reducible repeat (first | apply rA | apply rN | apply rD)); exact HO484.out) hb)
                    have n1_ := aS (Kd.R_elder' (by (with_reducible repeat (first | apply rA | apply rN | apply rD)); exact HO487.out) (Kd.R_base ho0) hb)
                    have n2_ := aS (Kd.R_below (by (with_reducible repeat (first | apply rA | apply rN | apply rD)); exact HO490.out) hb)
                    have n3_ := aS (Kd.V_elder' (by (with_reducible repeat (first | apply Kd.V_alloc | apply Kd.V_drewN | apply Kd.V_drew)); exact HO501.out) (Kd.R_base ho0) hb)
                    have n4_ := aS (Kd.R_below (by (with_reducible repeat (first | apply rA | apply rN | apply rD)); exact HO506.out) hb)
                    have n5_ := aS (Kd.V_elder' (by (with_reducible repeat (first | apply Kd.V_alloc | apply Kd.V_drewN | apply Kd.V_drew)); exact HO509.out) (Kd.R_base ho0) hb)
                    have n6_ := aS (Kd.R_below (by (with_reducible repeat (first | apply rA | apply rN | apply rD)); exact HO516.out) hb)
                    have n7_ := aS (Kd.R_lower (Kd.R_new' ho0 (Kd.R_lt (by (with_reducible repeat (first | apply rA | apply rN | apply rD)); exact HO487.out))) (below_size (by repeat (first | (with_reducible first | exact HB.out | apply lA | apply lN | apply lD | refine below_set ?_ GE480.out | refine below_set ?_ GE481.out) | exact HB.out))))
                    have n8_ := aS (blk_below (g := gb480) (o := .cells #[.int .i32 a1_0, .int .i32 a1_1, .int .i32 a1_2, .int .u8 a1_3, .int .u8 a1_4, .int .u8 a1_5, .int .u8 a1_6] 26 (0, 0)) (by (with_reducible repeat (first | apply bN | apply bD | apply bA)); exact BK480.out) hb)
                    have n9_ := aS (blk_below (g := gb481) (o := .cells #[.int .u8 a4_0, .int .u8 a4_1, .int .u8 a4_2] 24 (0, 0)) (by (with_reducible repeat (first | apply bN | apply bD | apply bA)); exact BK481.out) hb)
                    have n10_ := aS (below_step (by repeat (first | (with_reducible first | exact HB.out | apply lA | apply lN | apply lD | refine below_set ?_ GE480.out | refine below_set ?_ GE481.out) | exact HB.out)) hb)
                    clear HO484
                    clear HO487
                    clear HO490
                    clear HO501
                    clear HO506
                    clear HO509
                    clear HO516
                    clear BK480
                    clear BK481
                    clear HB
                    have HO484 := n0_
                    have HO487 := n1_
                    have HO490 := n2_
                    have HO501 := n3_
                    have HO506 := n4_
                    have HO509 := n5_
                    have HO516 := n6_
                    have HO519 := n7_
                    have BK480 := n8_
                    have BK481 := n9_
                    have HB := n10_
                    clear n0_ n1_ n2_ n3_ n4_ n5_ n6_ n7_ n8_ n9_ n10_
                    (try clear hb)
                    (try clear hb2)
                    (try clear hk)
                    (try clear hi)
                    (try clear ho0)
                    obtain ⟨Ao63, co63, eo63⟩ := Kd.R_slice HO516.out
                    (first | subst eo63 | (injection eo63 with f1_ f2_ f3_; have f4_ := f1_.symm; have f5_ := f3_.symm; clear f1_ f2_ f3_; subst f4_; subst f5_))
                    obtain ⟨Ao64, co64, eo64⟩ := Kd.R_slice HO519.out
                    (first | subst eo64 | (injection eo64 with f1_ f2_ f3_; have f4_ := f1_.symm; have f5_ := f3_.symm; clear f1_ f2_ f3_; subst f4_; subst f5_))
                    refine hK.out _ _ ⟨(blk_cell BK481.out 0).trans rfl, (blk_cell BK481.out 1).trans rfl, (blk_cell BK481.out 2).trans rfl⟩ (fun hHeld => ?_)
                    clear hK K
                    refine norm_ (a' := ?_) ?_ ?_
                    rotate_left
                    · show Act.put _ (some 87) _ = _
                      simp only [Act.put, List.setIfInBounds_toArray, List.set_cons_zero, List.set_cons_succ, i64_w, i32_w]
                      rfl
                    refine one_ (i := 32) (N := some 88) (tf 33 30) rfl rfl (one_of HT_.out (by kernel_rfl)) (by decide) (fun K hK => ?_)
                    refine goes_ Try.func46 (by kernel_rfl) rfl #[.slice Ao63 t514.length co63, .slice Ao64 t517.length co64] (by rfl) rfl rfl (by (try simp only [List.map_toArray, List.map_cons, List.map_nil]); first | done | rfl | (simp only [List.length_drop, List.length_take]; rfl)) ?_
                    with_reducible refine (prolepsislaw06_Same.calls k _ _ t514 _ _ t517 true _ ?side1 ?side2 ?side3 ?side4 A24.out).mono ?_
                    (case side1 => repeat (first | exact (Kd.R_reads' HO516.out).2.2 | (with_reducible refine Kd.C_alloc ?_ _) | (with_reducible refine Kd.C_drewN ?_ _) | (with_reducible refine Kd.C_drew ?_)))
                    (case side2 => exact (Kd.R_reads' HO516.out).2.1)
                    (case side3 => repeat (first | exact (Kd.R_reads' HO519.out).2.2 | (with_reducible refine Kd.C_alloc ?_ _) | (with_reducible refine Kd.C_drewN ?_ _) | (with_reducible refine Kd.C_drew ?_)))
                    (case side4 => exact (Kd.R_reads' HO519.out).2.1)
                    rintro e w65 ⟨rfl, hb⟩
                    refine ⟨_, rfl, ?_⟩
                    have n0_ := aS (Kd.R_below (by (with_reducible repeat (first | apply rA | apply rN | apply rD)); exact HO484.out) hb)
                    have n1_ := aS (Kd.R_below (by (with_reducible repeat (first | apply rA | apply rN | apply rD)); exact HO487.out) hb)
                    have n2_ := aS (Kd.R_below (by (with_reducible repeat (first | apply rA | apply rN | apply rD)); exact HO490.out) hb)
                    have n3_ := aS (Kd.V_below (by (with_reducible repeat (first | apply Kd.V_alloc | apply Kd.V_drewN | apply Kd.V_drew)); exact HO501.out) hb)
                    have n4_ := aS (Kd.R_below (by (with_reducible repeat (first | apply rA | apply rN | apply rD)); exact HO506.out) hb)
                    have n5_ := aS (Kd.V_below (by (with_reducible repeat (first | apply Kd.V_alloc | apply Kd.V_drewN | apply Kd.V_drew)); exact HO509.out) hb)
                    have n6_ := aS (Kd.R_below (by (with_reducible repeat (first | apply rA | apply rN | apply rD)); exact HO516.out) hb)
                    have n7_ := aS (Kd.R_below (by (with_reducible repeat (first | apply rA | apply rN | apply rD)); exact HO519.out) hb)
                    have n8_ := aS (blk_below (g := gb480) (o := .cells #[.int .i32 a1_0, .int .i32 a1_1, .int .i32 a1_2, .int .u8 a1_3, .int .u8 a1_4, .int .u8 a1_5, .int .u8 a1_6] 26 (0, 0)) (by (with_reducible repeat (first | apply bN | apply bD | apply bA)); exact BK480.out) hb)
                    have n9_ := aS (blk_below (g := gb481) (o := .cells #[.int .u8 a4_0, .int .u8 a4_1, .int .u8 a4_2] 24 (0, 0)) (by (with_reducible repeat (first | apply bN | apply bD | apply bA)); exact BK481.out) hb)
                    have n10_ := aS (below_step (by repeat (first | (with_reducible first | exact HB.out | apply lA | apply lN | apply lD | refine below_set ?_ GE480.out | refine below_set ?_ GE481.out) | exact HB.out)) hb)
                    clear HO484
                    clear HO487
                    clear HO490
                    clear HO501
                    clear HO506
                    clear HO509
                    clear HO516
                    clear HO519
                    clear BK480
                    clear BK481
                    clear HB
                    have HO484 := n0_
                    have HO487 := n1_
                    have HO490 := n2_
                    have HO501 := n3_
                    have HO506 := n4_
                    have HO509 := n5_
                    have HO516 := n6_
                    have HO519 := n7_
                    have BK480 := n8_
                    have BK481 := n9_
                    have HB := n10_
                    clear n0_ n1_ n2_ n3_ n4_ n5_ n6_ n7_ n8_ n9_ n10_
                    (try clear hb)
                    (try clear hb2)
                    (try clear hk)
                    (try clear hi)
                    refine hK.out _ _ ⟨(blk_cell BK481.out 0).trans rfl, (blk_cell BK481.out 1).trans rfl, (blk_cell BK481.out 2).trans rfl⟩ (fun hHeld => ?_)
                    clear hK K
                    refine norm_ (a' := ?_) ?_ ?_
                    rotate_left
                    · show Act.put _ (some 88) _ = _
                      simp only [Act.put, List.setIfInBounds_toArray, List.set_cons_zero, List.set_cons_succ, i64_w, i32_w]
                      rfl
                    refine pure_ (i := 33) (N := some 89) (v := ?_) (a' := ?_) (tf 34 29) rfl rfl (any_of HT_.out (by kernel_rfl)) (fun _ _ _ h => h) (Or.inl ⟨by rfl, ?_⟩) ?_ ?_
                    rotate_left
                    · intro w'
                      go_simp
                      with_reducible rfl
                    rotate_left
                    · simp only [Act.put, List.setIfInBounds_toArray, List.set_cons_zero, List.set_cons_succ, i64_w, i32_w]
                      rfl
                    refine pure_ (i := 34) (N := some 90) (v := ?_) (a' := ?_) (tf 35 28) rfl rfl (any_of HT_.out (by kernel_rfl)) (fun _ _ _ h => h) (Or.inl ⟨by rfl, ?_⟩) ?_ ?_
                    rotate_left
                    · intro w'
                      go_simp
                      with_reducible rfl
                    rotate_left
                    · simp only [Act.put, List.setIfInBounds_toArray, List.set_cons_zero, List.set_cons_succ, i64_w, i32_w]
                      rfl
                    refine pure_ (i := 35) (N := some 91) (v := ?_) (a' := ?_) (tf 36 27) rfl rfl (any_of HT_.out (by kernel_rfl)) (fun _ _ _ h => h) (Or.inl ⟨by rfl, ?_⟩) ?_ ?_
                    rotate_left
                    · intro w'
                      go_simp
                      with_reducible rfl
                    rotate_left
                    · simp only [Act.put, List.setIfInBounds_toArray, List.set_cons_zero, List.set_cons_succ, i64_w, i32_w]
                      rfl
                    refine pure_ (i := 36) (N := some 92) (v := ?_) (a' := ?_) (tf 37 26) rfl rfl (any_of HT_.out (by kernel_rfl)) (fun _ _ _ h => h) (Or.inl ⟨by rfl, ?_⟩) ?_ ?_
                    rotate_left
                    · intro w'
                      go_simp
                      with_reducible rfl
                    rotate_left
                    · simp only [Act.put, List.setIfInBounds_toArray, List.set_cons_zero, List.set_cons_succ, i64_w, i32_w]
                      rfl
                    refine pure_ (i := 38) (N := some 94) (v := ?_) (a' := ?_) #[true, true, true, true, true, true, true, true, true, true, true, true, true, true, true, true, true, true, true, true, true, true, true, true, true, true, true, true, true, true, true, true, true, true, true, true, true, false, true, false, false, false, false, false, false, false, false, false, false, false, false, false, false, false, false, false, false, false, false, false, false, false, false] rfl rfl (any_of HT_.out (by kernel_rfl)) (fun _ _ _ h => h) (Or.inl ⟨by rfl, ?_⟩) ?_ ?_
                    rotate_left
                    · intro w'
                      go_simp
                      with_reducible rfl
                    rotate_left
                    · simp only [Act.put, List.setIfInBounds_toArray, List.set_cons_zero, List.set_cons_succ, i64_w, i32_w]
                      rfl
                    refine pure_ (i := 39) (N := some 95) (v := ?_) (a' := ?_) #[true, true, true, true, true, true, true, true, true, true, true, true, true, true, true, true, true, true, true, true, true, true, true, true, true, true, true, true, true, true, true, true, true, true, true, true, true, false, true, true, false, false, false, false, false, false, false, false, false, false, false, false, false, false, false, false, false, false, false, false, false, false, false] rfl rfl (any_of HT_.out (by kernel_rfl)) (fun _ _ _ h => h) (Or.inl ⟨by rfl, ?_⟩) ?_ ?_
                    rotate_left
                    · intro w'
                      go_simp
                      with_reducible rfl
                    rotate_left
                    · simp only [Act.put, List.setIfInBounds_toArray, List.set_cons_zero, List.set_cons_succ, i64_w, i32_w]
                      rfl
                    refine one_ (i := 37) (N := some 93) (tf 40 23) rfl rfl (one_of HT_.out (by kernel_rfl)) (by decide) (fun K hK => ?_)
                    refine goes_ Try.func39 (by kernel_rfl) rfl #[.slice Ao42 t482.length co42, .int .i64 a3] (by rfl) rfl rfl (by (try simp only [List.map_toArray, List.map_cons, List.map_nil]); first | done | rfl | (simp only [List.length_drop, List.length_take]; rfl)) ?_
                    with_reducible refine (line_Fit.calls k _ _ t482 a3 t521 _ ?side1 ?side2 A26.out).mono ?_
                    (case side1 => repeat (first | exact (Kd.R_reads' HO484.out).2.2 | (with_reducible refine Kd.C_alloc ?_ _) | (with_reducible refine Kd.C_drewN ?_ _) | (with_reducible refine Kd.C_drew ?_)))
                    (case side2 => exact (Kd.R_reads' HO484.out).2.1)
                    rintro e w66 ⟨v522, rfl, ho0, hb⟩
                    refine ⟨_, rfl, ?_⟩
                    have n0_ := aS (Kd.R_elder' (by (with_reducible repeat (first | apply rA | apply rN | apply rD)); exact HO484.out) (Kd.R_base ho0) hb)
                    have n1_ := aS (Kd.R_below (by (with_reducible repeat (first | apply rA | apply rN | apply rD)); exact HO487.out) hb)
                    have n2_ := aS (Kd.R_elder' (by (with_reducible repeat (first | apply rA | apply rN | apply rD)); exact HO490.out) (Kd.R_base ho0) hb)
                    have n3_ := aS (Kd.V_elder' (by (with_reducible repeat (first | apply Kd.V_alloc | apply Kd.V_drewN | apply Kd.V_drew)); exact HO501.out) (Kd.R_base ho0) hb)
                    have n4_ := aS (Kd.R_elder' (by (with_reducible repeat (first | apply rA | apply rN | apply rD)); exact HO506.out) (Kd.R_base ho0) hb)
                    have n5_ := aS (Kd.V_elder' (by (with_reducible repeat (first | apply Kd.V_alloc | apply Kd.V_drewN | apply Kd.V_drew)); exact HO509.out) (Kd.R_base ho0) hb)
                    have n6_ := aS (Kd.R_elder' (by (with_reducible repeat (first | apply rA | apply rN | apply rD)); exact HO516.out) (Kd.R_base ho0) hb)
                    have n7_ := aS (Kd.R_below (by (with_reducible repeat (first | apply rA | apply rN | apply rD)); exact HO519.out) hb)
                    have n8_ := aS (Kd.R_lower (Kd.R_newB (Kd.R_new' (Kd.R_new' (Kd.R_new' (Kd.R_new' ho0 (Kd.R_lt (by (with_reducible repeat (first | apply rA | apply rN | apply rD)); exact HO484.out))) (Kd.R_lt (by (with_reducible repeat (first | apply rA | apply rN | apply rD)); exact HO490.out))) (Kd.R_lt (by (with_reducible repeat (first | apply rA | apply rN | apply rD)); exact HO506.out))) (Kd.R_lt (by (with_reducible repeat (first | apply rA | apply rN | apply rD)); exact HO516.out))) (g := gb480) (o := .cells #[.int .i32 a1_0, .int .i32 a1_1, .int .i32 a1_2, .int .u8 a1_3, .int .u8 a1_4, .int .u8 a1_5, .int .u8 a1_6] 26 (0, 0)) (by (with_reducible repeat (first | apply bN | apply bD | apply bA)); exact BK480.out)) (below_size (by repeat (first | (with_reducible first | exact HB.out | apply lA | apply lN | apply lD | refine below_set ?_ GE480.out | refine below_set ?_ GE481.out) | exact HB.out))))
                    have n9_ := aS (blk_below (g := gb480) (o := .cells #[.int .i32 a1_0, .int .i32 a1_1, .int .i32 a1_2, .int .u8 a1_3, .int .u8 a1_4, .int .u8 a1_5, .int .u8 a1_6] 26 (0, 0)) (by (with_reducible repeat (first | apply bN | apply bD | apply bA)); exact BK480.out) hb)
                    have n10_ := aS (blk_below (g := gb481) (o := .cells #[.int .u8 a4_0, .int .u8 a4_1, .int .u8 a4_2] 24 (0, 0)) (by (with_reducible repeat (first | apply bN | apply bD | apply bA)); exact BK481.out) hb)
                    have n11_ := aS (below_step (by repeat (first | (with_reducible first | exact HB.out | apply lA | apply lN | apply lD | refine below_set ?_ GE480.out | refine below_set ?_ GE481.out) | exact HB.out)) hb)
                    clear HO484
                    clear HO487
                    clear HO490
                    clear HO501
                    clear HO506
                    clear HO509
                    clear HO516
                    clear HO519
                    clear BK480
                    clear BK481
                    clear HB
                    have HO484 := n0_
                    have HO487 := n1_
                    have HO490 := n2_
                    have HO501 := n3_
                    have HO506 := n4_
                    have HO509 := n5_
                    have HO516 := n6_
                    have HO519 := n7_
                    have HO523 := n8_
                    have BK480 := n9_
                    have BK481 := n10_
                    have HB := n11_
                    clear n0_ n1_ n2_ n3_ n4_ n5_ n6_ n7_ n8_ n9_ n10_ n11_
                    (try clear hb)
                    (try clear hb2)
                    (try clear hk)
                    (try clear hi)
                    (try clear ho0)
                    refine hK.out _ _ ⟨(blk_cell BK481.out 0).trans rfl, (blk_cell BK481.out 1).trans rfl, (blk_cell BK481.out 2).trans rfl⟩ (fun hHeld => ?_)
                    clear hK K
                    refine norm_ (a' := ?_) ?_ ?_
                    rotate_left
                    · show Act.put _ (some 93) _ = _
                      simp only [Act.put, List.setIfInBounds_toArray, List.set_cons_zero, List.set_cons_succ, i64_w, i32_w]
                      rfl
                    refine one_ (i := 40) (N := some 96) (tf 41 22) rfl rfl (one_of HT_.out (by kernel_rfl)) (by decide) (fun K hK => ?_)
                    refine goes_ Try.func48 (by kernel_rfl) rfl #[.slice Ao49 t485.length co49, .int .i64 a3] (by rfl) rfl rfl (by (try simp only [List.map_toArray, List.map_cons, List.map_nil]); first | done | rfl | (simp only [List.length_drop, List.length_take]; rfl)) ?_
                    with_reducible refine (prolepsisref06_Fit.calls k _ _ t485 a3 t524 _ ?side1 ?side2 A27.out).mono ?_
                    (case side1 => repeat (first | exact (Kd.R_reads' HO487.out).2.2 | (with_reducible refine Kd.C_alloc ?_ _) | (with_reducible refine Kd.C_drewN ?_ _) | (with_reducible refine Kd.C_drew ?_)))
                    (case side2 => exact (Kd.R_reads' HO487.out).2.1)
                    rintro e w67 ⟨v525, rfl, ho0, hb⟩
                    refine ⟨_, rfl, ?_⟩
                    have n0_ := aS (Kd.R_below (by (with_reducible repeat (first | apply rA | apply rN | apply rD)); exact HO484.out) hb)
                    have n1_ := aS (Kd.R_elder' (by (with_reducible repeat (first | apply rA | apply rN | apply rD)); exact HO487.out) (Kd.R_base ho0) hb)
                    have n2_ := aS (Kd.R_below (by (with_reducible repeat (first | apply rA | apply rN | apply rD)); exact HO490.out) hb)
                    have n3_ := aS (Kd.V_elder' (by (with_reducible repeat (first | apply Kd.V_alloc | apply Kd.V_drewN | apply Kd.V_drew)); exact HO501.out) (Kd.R_base ho0) hb)
                    have n4_ := aS (Kd.R_below (by (with_reducible repeat (first | apply rA | apply rN | apply rD)); exact HO506.out) hb)
                    have n5_ := aS (Kd.V_elder' (by (with_reducible repeat (first | apply Kd.V_alloc | apply Kd.V_drewN | apply Kd.V_drew)); exact HO509.out) (Kd.R_base ho0) hb)
                    have n6_ := aS (Kd.R_below (by (with_reducible repeat (first | apply rA | apply rN | apply rD)); exact HO516.out) hb)
                    have n7_ := aS (Kd.R_elder' (by (with_reducible repeat (first | apply rA | apply rN | apply rD)); exact HO519.out) (Kd.R_base ho0) hb)
                    have n8_ := aS (Kd.R_below (by (with_reducible repeat (first | apply rA | apply rN | apply rD)); exact HO523.out) hb)
                    have n9_ := aS (Kd.R_lower (Kd.R_new' (Kd.R_new' ho0 (Kd.R_lt (by (with_reducible repeat (first | apply rA | apply rN | apply rD)); exact HO487.out))) (Kd.R_lt (by (with_reducible repeat (first | apply rA | apply rN | apply rD)); exact HO519.out))) (below_size (by repeat (first | (with_reducible first | exact HB.out | apply lA | apply lN | apply lD | refine below_set ?_ GE480.out | refine below_set ?_ GE481.out) | exact HB.out))))
                    have n10_ := aS (blk_below (g := gb480) (o := .cells #[.int .i32 a1_0, .int .i32 a1_1, .int .i32 a1_2, .int .u8 a1_3, .int .u8 a1_4, .int .u8 a1_5, .int .u8 a1_6] 26 (0, 0)) (by (with_reducible repeat (first | apply bN | apply bD | apply bA)); exact BK480.out) hb)
                    have n11_ := aS (blk_below (g := gb481) (o := .cells #[.int .u8 a4_0, .int .u8 a4_1, .int .u8 a4_2] 24 (0, 0)) (by (with_reducible repeat (first | apply bN | apply bD | apply bA)); exact BK481.out) hb)
                    have n12_ := aS (below_step (by repeat (first | (with_reducible first | exact HB.out | apply lA | apply lN | apply lD | refine below_set ?_ GE480.out | refine below_set ?_ GE481.out) | exact HB.out)) hb)
                    clear HO484
                    clear HO487
                    clear HO490
                    clear HO501
                    clear HO506
                    clear HO509
                    clear HO516
                    clear HO519
                    clear HO523
                    clear BK480
                    clear BK481
                    clear HB
                    have HO484 := n0_
                    have HO487 := n1_
                    have HO490 := n2_
                    have HO501 := n3_
                    have HO506 := n4_
                    have HO509 := n5_
                    have HO516 := n6_
                    have HO519 := n7_
                    have HO523 := n8_
                    have HO526 := n9_
                    have BK480 := n10_
                    have BK481 := n11_
                    have HB := n12_
                    clear n0_ n1_ n2_ n3_ n4_ n5_ n6_ n7_ n8_ n9_ n10_ n11_ n12_
                    (try clear hb)
                    (try clear hb2)
                    (try clear hk)
                    (try clear hi)
                    (try clear ho0)
                    obtain ⟨Ao68, co68, eo68⟩ := Kd.R_slice HO523.out
                    (first | subst eo68 | (injection eo68 with f1_ f2_ f3_; have f4_ := f1_.symm; have f5_ := f3_.symm; clear f1_ f2_ f3_; subst f4_; subst f5_))
                    obtain ⟨Ao69, co69, eo69⟩ := Kd.R_slice HO526.out
                    (first | subst eo69 | (injection eo69 with f1_ f2_ f3_; have f4_ := f1_.symm; have f5_ := f3_.symm; clear f1_ f2_ f3_; subst f4_; subst f5_))
                    refine hK.out _ _ ⟨(blk_cell BK481.out 0).trans rfl, (blk_cell BK481.out 1).trans rfl, (blk_cell BK481.out 2).trans rfl⟩ (fun hHeld => ?_)
                    clear hK K
                    refine norm_ (a' := ?_) ?_ ?_
                    rotate_left
                    · show Act.put _ (some 96) _ = _
                      simp only [Act.put, List.setIfInBounds_toArray, List.set_cons_zero, List.set_cons_succ, i64_w, i32_w]
                      rfl
                    refine one_ (i := 41) (N := some 97) (tf 42 21) rfl rfl (one_of HT_.out (by kernel_rfl)) (by decide) (fun K hK => ?_)
                    refine goes_ Try.func46 (by kernel_rfl) rfl #[.slice Ao68 t521.length co68, .slice Ao69 t524.length co69] (by rfl) rfl rfl (by (try simp only [List.map_toArray, List.map_cons, List.map_nil]); first | done | rfl | (simp only [List.length_drop, List.length_take]; rfl)) ?_
                    with_reducible refine (prolepsislaw06_Same.calls k _ _ t521 _ _ t524 true _ ?side1 ?side2 ?side3 ?side4 A28.out).mono ?_
                    (case side1 => repeat (first | exact (Kd.R_reads' HO523.out).2.2 | (with_reducible refine Kd.C_alloc ?_ _) | (with_reducible refine Kd.C_drewN ?_ _) | (with_reducible refine Kd.C_drew ?_)))
                    (case side2 => exact (Kd.R_reads' HO523.out).2.1)
                    (case side3 => repeat (first | exact (Kd.R_reads' HO526.out).2.2 | (with_reducible refine Kd.C_alloc ?_ _) | (with_reducible refine Kd.C_drewN ?_ _) | (with_reducible refine Kd.C_drew ?_)))
                    (case side4 => exact (Kd.R_reads' HO526.out).2.1)
                    rintro e w70 ⟨rfl, hb⟩
                    refine ⟨_, rfl, ?_⟩
                    have n0_ := aS (Kd.R_below (by (with_reducible repeat (first | apply rA | apply rN | apply rD)); exact HO484.out) hb)
                    have n1_ := aS (Kd.R_below (by (with_reducible repeat (first | apply rA | apply rN | apply rD)); exact HO487.out) hb)
                    have n2_ := aS (Kd.R_below (by (with_reducible repeat (first | apply rA | apply rN | apply rD)); exact HO490.out) hb)
                    have n3_ := aS (Kd.V_below (by (with_reducible repeat (first | apply Kd.V_alloc | apply Kd.V_drewN | apply Kd.V_drew)); exact HO501.out) hb)
                    have n4_ := aS (Kd.R_below (by (with_reducible repeat (first | apply rA | apply rN | apply rD)); exact HO506.out) hb)
                    have n5_ := aS (Kd.V_below (by (with_reducible repeat (first | apply Kd.V_alloc | apply Kd.V_drewN | apply Kd.V_drew)); exact HO509.out) hb)
                    have n6_ := aS (Kd.R_below (by (with_reducible repeat (first | apply rA | apply rN | apply rD)); exact HO516.out) hb)
                    have n7_ := aS (Kd.R_below (by (with_reducible repeat (first | apply rA | apply rN | apply rD)); exact HO519.out) hb)
                    have n8_ := aS (Kd.R_below (by (with_reducible repeat (first | apply rA | apply rN | apply rD)); exact HO523.out) hb)
                    have n9_ := aS (Kd.R_below (by (with_reducible repeat (first | apply rA | apply rN | apply rD)); exact HO526.out) hb)
                    have n10_ := aS (blk_below (g := gb480) (o := .cells #[.int .i32 a1_0, .int .i32 a1_1, .int .i32 a1_2, .int .u8 a1_3, .int .u8 a1_4, .int .u8 a1_5, .int .u8 a1_6] 26 (0, 0)) (by (with_reducible repeat (first | apply bN | apply bD | apply bA)); exact BK480.out) hb)
                    have n11_ := aS (blk_below (g := gb481) (o := .cells #[.int .u8 a4_0, .int .u8 a4_1, .int .u8 a4_2] 24 (0, 0)) (by (with_reducible repeat (first | apply bN | apply bD | apply bA)); exact BK481.out) hb)
                    have n12_ := aS (below_step (by repeat (first | (with_reducible first | exact HB.out | apply lA | apply lN | apply lD | refine below_set ?_ GE480.out | refine below_set ?_ GE481.out) | exact HB.out)) hb)
                    clear HO484
                    clear HO487
                    clear HO490
                    clear HO501
                    clear HO506
                    clear HO509
                    clear HO516
                    clear HO519
                    clear HO523
                    clear HO526
                    clear BK480
                    clear BK481
                    clear HB
                    have HO484 := n0_
                    have HO487 := n1_
                    have HO490 := n2_
                    have HO501 := n3_
                    have HO506 := n4_
                    have HO509 := n5_
                    have HO516 := n6_
                    have HO519 := n7_
                    have HO523 := n8_
                    have HO526 := n9_
                    have BK480 := n10_
                    have BK481 := n11_
                    have HB := n12_
                    clear n0_ n1_ n2_ n3_ n4_ n5_ n6_ n7_ n8_ n9_ n10_ n11_ n12_
                    (try clear hb)
                    (try clear hb2)
                    (try clear hk)
                    (try clear hi)
                    refine hK.out _ _ ⟨(blk_cell BK481.out 0).trans rfl, (blk_cell BK481.out 1).trans rfl, (blk_cell BK481.out 2).trans rfl⟩ (fun hHeld => ?_)
                    clear hK K
                    refine norm_ (a' := ?_) ?_ ?_
                    rotate_left
                    · show Act.put _ (some 97) _ = _
                      simp only [Act.put, List.setIfInBounds_toArray, List.set_cons_zero, List.set_cons_succ, i64_w, i32_w]
                      rfl
                    refine pure_ (i := 42) (N := some 98) (v := ?_) (a' := ?_) (tf 43 20) rfl rfl (any_of HT_.out (by kernel_rfl)) (fun _ _ _ h => h) (Or.inl ⟨by rfl, ?_⟩) ?_ ?_
                    rotate_left
                    · intro w'
                      go_simp
                      with_reducible rfl
                    rotate_left
                    · simp only [Act.put, List.setIfInBounds_toArray, List.set_cons_zero, List.set_cons_succ, i64_w, i32_w]
                      rfl
                    refine pure_ (i := 43) (N := some 99) (v := ?_) (a' := ?_) (tf 44 19) rfl rfl (any_of HT_.out (by kernel_rfl)) (fun _ _ _ h => h) (Or.inl ⟨by rfl, ?_⟩) ?_ ?_
                    rotate_left
                    · intro w'
                      go_simp
                      with_reducible rfl
                    rotate_left
                    · simp only [Act.put, List.setIfInBounds_toArray, List.set_cons_zero, List.set_cons_succ, i64_w, i32_w]
                      rfl
                    refine pure_ (i := 44) (N := some 100) (v := ?_) (a' := ?_) (tf 45 18) rfl rfl (any_of HT_.out (by kernel_rfl)) (fun _ _ _ h => h) (Or.inl ⟨by rfl, ?_⟩) ?_ ?_
                    rotate_left
                    · intro w'
                      go_simp
                      with_reducible rfl
                    rotate_left
                    · simp only [Act.put, List.setIfInBounds_toArray, List.set_cons_zero, List.set_cons_succ, i64_w, i32_w]
                      rfl
                    refine pure_ (i := 46) (N := some 102) (v := ?_) (a' := ?_) #[true, true, true, true, true, true, true, true, true, true, true, true, true, true, true, true, true, true, true, true, true, true, true, true, true, true, true, true, true, true, true, true, true, true, true, true, true, true, true, true, true, true, true, true, true, false, true, false, false, false, false, false, false, false, false, false, false, false, false, false, false, false, false] rfl rfl (any_of HT_.out (by kernel_rfl)) (fun _ _ _ h => h) (Or.inl ⟨by rfl, ?_⟩) ?_ ?_
                    rotate_left
                    · intro w'
                      go_simp
                      with_reducible rfl
                    rotate_left
                    · simp only [Act.put, List.setIfInBounds_toArray, List.set_cons_zero, List.set_cons_succ, i64_w, i32_w]
                      rfl
                    refine one_ (i := 45) (N := some 101) (tf 47 16) rfl rfl (one_of HT_.out (by kernel_rfl)) (by decide) (fun K hK => ?_)
                    refine goes_ Try.func49 (by kernel_rfl) rfl #[.slice Ao42 t482.length co42] (by rfl) rfl rfl (by (try simp only [List.map_toArray, List.map_cons, List.map_nil]); first | done | rfl | (simp only [List.length_drop, List.length_take]; rfl)) ?_
                    with_reducible refine (line_Mend.calls _ _ t482 t528 _ ?side1 ?side2 A30.out).mono ?_
                    (case side1 => repeat (first | exact (Kd.R_reads' HO484.out).2.2 | (with_reducible refine Kd.C_alloc ?_ _) | (with_reducible refine Kd.C_drewN ?_ _) | (with_reducible refine Kd.C_drew ?_)))
                    (case side2 => exact (Kd.R_reads' HO484.out).2.1)
                    rintro e w71 ⟨v529, rfl, ho0, hb⟩
                    refine ⟨_, rfl, ?_⟩
                    have n0_ := aS (Kd.R_elder' (by (with_reducible repeat (first | apply rA | apply rN | apply rD)); exact HO484.out) (Kd.R_base ho0) hb)
                    have n1_ := aS (Kd.R_below (by (with_reducible repeat (first | apply rA | apply rN | apply rD)); exact HO487.out) hb)
                    have n2_ := aS (Kd.R_elder' (by (with_reducible repeat (first | apply rA | apply rN | apply rD)); exact HO490.out) (Kd.R_base ho0) hb)
                    have n3_ := aS (Kd.V_elder' (by (with_reducible repeat (first | apply Kd.V_alloc | apply Kd.V_drewN | apply Kd.V_drew)); exact HO501.out) (Kd.R_base ho0) hb)
                    have n4_ := aS (Kd.R_elder' (by (with_reducible repeat (first | apply rA | apply rN | apply rD)); exact HO506.out) (Kd.R_base ho0) hb)
                    have n5_ := aS (Kd.V_elder' (by (with_reducible repeat (first | apply Kd.V_alloc | apply Kd.V_drewN | apply Kd.V_drew)); exact HO509.out) (Kd.R_base ho0) hb)
                    have n6_ := aS (Kd.R_elder' (by (with_reducible repeat (first | apply rA | apply rN | apply rD)); exact HO516.out) (Kd.R_base ho0) hb)
                    have n7_ := aS (Kd.R_below (by (with_reducible repeat (first | apply rA | apply rN | apply rD)); exact HO519.out) hb)
                    have n8_ := aS (Kd.R_elder' (by (with_reducible repeat (first | apply rA | apply rN | apply rD)); exact HO523.out) (Kd.R_base ho0) hb)
                    have n9_ := aS (Kd.R_below (by (with_reducible repeat (first | apply rA | apply rN | apply rD)); exact HO526.out) hb)
                    have n10_ := aS (Kd.R_lower (Kd.R_newB (Kd.R_new' (Kd.R_new' (Kd.R_new' (Kd.R_new' (Kd.R_new' ho0 (Kd.R_lt (by (with_reducible repeat (first | apply rA | apply rN | apply rD)); exact HO484.out))) (Kd.R_lt (by (with_reducible repeat (first | apply rA | apply rN | apply rD)); exact HO490.out))) (Kd.R_lt (by (with_reducible repeat (first | apply rA | apply rN | apply rD)); exact HO506.out))) (Kd.R_lt (by (with_reducible repeat (first | apply rA | apply rN | apply rD)); exact HO516.out))) (Kd.R_lt (by (with_reducible repeat (first | apply rA | apply rN | apply rD)); exact HO523.out))) (g := gb480) (o := .cells #[.int .i32 a1_0, .int .i32 a1_1, .int .i32 a1_2, .int .u8 a1_3, .int .u8 a1_4, .int .u8 a1_5, .int .u8 a1_6] 26 (0, 0)) (by (with_reducible repeat (first | apply bN | apply bD | apply bA)); exact BK480.out)) (below_size (by repeat (first | (with_reducible first | exact HB.out | apply lA | apply lN | apply lD | refine below_set ?_ GE480.out | refine below_set ?_ GE481.out) | exact HB.out))))
                    have n11_ := aS (blk_below (g := gb480) (o := .cells #[.int .i32 a1_0, .int .i32 a1_1, .int .i32 a1_2, .int .u8 a1_3, .int .u8 a1_4, .int .u8 a1_5, .int .u8 a1_6] 26 (0, 0)) (by (with_reducible repeat (first | apply bN | apply bD | apply bA)); exact BK480.out) hb)
                    have n12_ := aS (blk_below (g := gb481) (o := .cells #[.int .u8 a4_0, .int .u8 a4_1, .int .u8 a4_2] 24 (0, 0)) (by (with_reducible repeat (first | apply bN | apply bD | apply bA)); exact BK481.out) hb)
                    have n13_ := aS (below_step (by repeat (first | (with_reducible first | exact HB.out | apply lA | apply lN | apply lD | refine below_set ?_ GE480.out | refine below_set ?_ GE481.out) | exact HB.out)) hb)
                    clear HO484
                    clear HO487
                    clear HO490
                    clear HO501
                    clear HO506
                    clear HO509
                    clear HO516
                    clear HO519
                    clear HO523
                    clear HO526
                    clear BK480
                    clear BK481
                    clear HB
                    have HO484 := n0_
                    have HO487 := n1_
                    have HO490 := n2_
                    have HO501 := n3_
                    have HO506 := n4_
                    have HO509 := n5_
                    have HO516 := n6_
                    have HO519 := n7_
                    have HO523 := n8_
                    have HO526 := n9_
                    have HO530 := n10_
                    have BK480 := n11_
                    have BK481 := n12_
                    have HB := n13_
                    clear n0_ n1_ n2_ n3_ n4_ n5_ n6_ n7_ n8_ n9_ n10_ n11_ n12_ n13_
                    (try clear hb)
                    (try clear hb2)
                    (try clear hk)
                    (try clear hi)
                    (try clear ho0)
                    refine hK.out _ _ ⟨(blk_cell BK481.out 0).trans rfl, (blk_cell BK481.out 1).trans rfl, (blk_cell BK481.out 2).trans rfl⟩ (fun hHeld => ?_)
                    clear hK K
                    refine norm_ (a' := ?_) ?_ ?_
                    rotate_left
                    · show Act.put _ (some 101) _ = _
                      simp only [Act.put, List.setIfInBounds_toArray, List.set_cons_zero, List.set_cons_succ, i64_w, i32_w]
                      rfl
                    refine one_ (i := 47) (N := some 103) (tf 48 15) rfl rfl (one_of HT_.out (by kernel_rfl)) (by decide) (fun K hK => ?_)
                    refine goes_ Try.func50 (by kernel_rfl) rfl #[.slice Ao49 t485.length co49] (by rfl) rfl rfl (by (try simp only [List.map_toArray, List.map_cons, List.map_nil]); first | done | rfl | (simp only [List.length_drop, List.length_take]; rfl)) ?_
                    with_reducible refine (prolepsisref06_Mend.calls k _ _ t485 t531 _ ?side1 ?side2 A31.out).mono ?_
                    (case side1 => repeat (first | exact (Kd.R_reads' HO487.out).2.2 | (with_reducible refine Kd.C_alloc ?_ _) | (with_reducible refine Kd.C_drewN ?_ _) | (with_reducible refine Kd.C_drew ?_)))
                    (case side2 => exact (Kd.R_reads' HO487.out).2.1)
                    rintro e w72 ⟨v532, rfl, ho0, hb⟩
                    refine ⟨_, rfl, ?_⟩
                    have n0_ := aS (Kd.R_below (by (with_reducible repeat (first | apply rA | apply rN | apply rD)); exact HO484.out) hb)
                    have n1_ := aS (Kd.R_elder' (by (with_reducible repeat (first | apply rA | apply rN | apply rD)); exact HO487.out) (Kd.R_base ho0) hb)
                    have n2_ := aS (Kd.R_below (by (with_reducible repeat (first | apply rA | apply rN | apply rD)); exact HO490.out) hb)
                    have n3_ := aS (Kd.V_elder' (by (with_reducible repeat (first | apply Kd.V_alloc | apply Kd.V_drewN | apply Kd.V_drew)); exact HO501.out) (Kd.R_base ho0) hb)
                    have n4_ := aS (Kd.R_below (by (with_reducible repeat (first | apply rA | apply rN | apply rD)); exact HO506.out) hb)
                    have n5_ := aS (Kd.V_elder' (by (with_reducible repeat (first | apply Kd.V_alloc | apply Kd.V_drewN | apply Kd.V_drew)); exact HO509.out) (Kd.R_base ho0) hb)
                    have n6_ := aS (Kd.R_below (by (with_reducible repeat (first | apply rA | apply rN | apply rD)); exact HO516.out) hb)
                    have n7_ := aS (Kd.R_elder' (by (with_reducible repeat (first | apply rA | apply rN | apply rD)); exact HO519.out) (Kd.R_base ho0) hb)
                    have n8_ := aS (Kd.R_below (by (with_reducible repeat (first | apply rA | apply rN | apply rD)); exact HO523.out) hb)
                    have n9_ := aS (Kd.R_elder' (by (with_reducible repeat (first | apply rA | apply rN | apply rD)); exact HO526.out) (Kd.R_base ho0) hb)
                    have n10_ := aS (Kd.R_below (by (with_reducible repeat (first | apply rA | apply rN | apply rD)); exact HO530.out) hb)
                    have n11_ := aS (Kd.R_lower (Kd.R_new' (Kd.R_new' (Kd.R_new' ho0 (Kd.R_lt (by (with_reducible repeat (first | apply rA | apply rN | apply rD)); exact HO487.out))) (Kd.R_lt (by (with_reducible repeat (first | apply rA | apply rN | apply rD)); exact HO519.out))) (Kd.R_lt (by (with_reducible repeat (first | apply rA | apply rN | apply rD)); exact HO526.out))) (below_size (by repeat (first | (with_reducible first | exact HB.out | apply lA | apply lN | apply lD | refine below_set ?_ GE480.out | refine below_set ?_ GE481.out) | exact HB.out))))
                    have n12_ := aS (blk_below (g := gb480) (o := .cells #[.int .i32 a1_0, .int .i32 a1_1, .int .i32 a1_2, .int .u8 a1_3, .int .u8 a1_4, .int .u8 a1_5, .int .u8 a1_6] 26 (0, 0)) (by (with_reducible repeat (first | apply bN | apply bD | apply bA)); exact BK480.out) hb)
                    have n13_ := aS (blk_below (g := gb481) (o := .cells #[.int .u8 a4_0, .int .u8 a4_1, .int .u8 a4_2] 24 (0, 0)) (by (with_reducible repeat (first | apply bN | apply bD | apply bA)); exact BK481.out) hb)
                    have n14_ := aS (below_step (by repeat (first | (with_reducible first | exact HB.out | apply lA | apply lN | apply lD | refine below_set ?_ GE480.out | refine below_set ?_ GE481.out) | exact HB.out)) hb)
                    clear HO484
                    clear HO487
                    clear HO490
                    clear HO501
                    clear HO506
                    clear HO509
                    clear HO516
                    clear HO519
                    clear HO523
                    clear HO526
                    clear HO530
                    clear BK480
                    clear BK481
                    clear HB
                    have HO484 := n0_
                    have HO487 := n1_
                    have HO490 := n2_
                    have HO501 := n3_
                    have HO506 := n4_
                    have HO509 := n5_
                    have HO516 := n6_
                    have HO519 := n7_
                    have HO523 := n8_
                    have HO526 := n9_
                    have HO530 := n10_
                    have HO533 := n11_
                    have BK480 := n12_
                    have BK481 := n13_
                    have HB := n14_
                    clear n0_ n1_ n2_ n3_ n4_ n5_ n6_ n7_ n8_ n9_ n10_ n11_ n12_ n13_ n14_
                    (try clear hb)
                    (try clear hb2)
                    (try clear hk)
                    (try clear hi)
                    (try clear ho0)
                    obtain ⟨Ao73, co73, eo73⟩ := Kd.R_slice HO530.out
                    (first | subst eo73 | (injection eo73 with f1_ f2_ f3_; have f4_ := f1_.symm; have f5_ := f3_.symm; clear f1_ f2_ f3_; subst f4_; subst f5_))
                    obtain ⟨Ao74, co74, eo74⟩ := Kd.R_slice HO533.out
                    (first | subst eo74 | (injection eo74 with f1_ f2_ f3_; have f4_ := f1_.symm; have f5_ := f3_.symm; clear f1_ f2_ f3_; subst f4_; subst f5_))
                    refine hK.out _ _ ⟨(blk_cell BK481.out 0).trans rfl, (blk_cell BK481.out 1).trans rfl, (blk_cell BK481.out 2).trans rfl⟩ (fun hHeld => ?_)
                    clear hK K
                    refine norm_ (a' := ?_) ?_ ?_
                    rotate_left
                    · show Act.put _ (some 103) _ = _
                      simp only [Act.put, List.setIfInBounds_toArray, List.set_cons_zero, List.set_cons_succ, i64_w, i32_w]
                      rfl
                    refine one_ (i := 48) (N := some 104) (tf 49 14) rfl rfl (one_of HT_.out (by kernel_rfl)) (by decide) (fun K hK => ?_)
                    refine goes_ Try.func46 (by kernel_rfl) rfl #[.slice Ao73 t528.length co73, .slice Ao74 t531.length co74] (by rfl) rfl rfl (by (try simp only [List.map_toArray, List.map_cons, List.map_nil]); first | done | rfl | (simp only [List.length_drop, List.length_take]; rfl)) ?_
                    with_reducible refine (prolepsislaw06_Same.calls k _ _ t528 _ _ t531 true _ ?side1 ?side2 ?side3 ?side4 A32.out).mono ?_
                    (case side1 => repeat (first | exact (Kd.R_reads' HO530.out).2.2 | (with_reducible refine Kd.C_alloc ?_ _) | (with_reducible refine Kd.C_drewN ?_ _) | (with_reducible refine Kd.C_drew ?_)))
                    (case side2 => exact (Kd.R_reads' HO530.out).2.1)
                    (case side3 => repeat (first | exact (Kd.R_reads' HO533.out).2.2 | (with_reducible refine Kd.C_alloc ?_ _) | (with_reducible refine Kd.C_drewN ?_ _) | (with_reducible refine Kd.C_drew ?_)))
                    (case side4 => exact (Kd.R_reads' HO533.out).2.1)
                    rintro e w75 ⟨rfl, hb⟩
                    refine ⟨_, rfl, ?_⟩
                    have n0_ := aS (Kd.R_below (by (with_reducible repeat (first | apply rA | apply rN | apply rD)); exact HO484.out) hb)
                    have n1_ := aS (Kd.R_below (by (with_reducible repeat (first | apply rA | apply rN | apply rD)); exact HO487.out) hb)
                    have n2_ := aS (Kd.R_below (by (with_reducible repeat (first | apply rA | apply rN | apply rD)); exact HO490.out) hb)
                    have n3_ := aS (Kd.V_below (by (with_reducible repeat (first | apply Kd.V_alloc | apply Kd.V_drewN | apply Kd.V_drew)); exact HO501.out) hb)
                    have n4_ := aS (Kd.R_below (by (with_reducible repeat (first | apply rA | apply rN | apply rD)); exact HO506.out) hb)
                    have n5_ := aS (Kd.V_below (by (with_reducible repeat (first | apply Kd.V_alloc | apply Kd.V_drewN | apply Kd.V_drew)); exact HO509.out) hb)
                    have n6_ := aS (Kd.R_below (by (with_reducible repeat (first | apply rA | apply rN | apply rD)); exact HO516.out) hb)
                    have n7_ := aS (Kd.R_below (by (with_reducible repeat (first | apply rA | apply rN | apply rD)); exact HO519.out) hb)
                    have n8_ := aS (Kd.R_below (by (with_reducible repeat (first | apply rA | apply rN | apply rD)); exact HO523.out) hb)
                    have n9_ := aS (Kd.R_below (by (with_reducible repeat (first | apply rA | apply rN | apply rD)); exact HO526.out) hb)
                    have n10_ := aS (Kd.R_below (by (with_reducible repeat (first | apply rA | apply rN | apply rD)); exact HO530.out) hb)
                    have n11_ := aS (Kd.R_below (by (with_reducible repeat (first | apply rA | apply rN | apply rD)); exact HO533.out) hb)
                    have n12_ := aS (blk_below (g := gb480) (o := .cells #[.int .i32 a1_0, .int .i32 a1_1, .int .i32 a1_2, .int .u8 a1_3, .int .u8 a1_4, .int .u8 a1_5, .int .u8 a1_6] 26 (0, 0)) (by (with_reducible repeat (first | apply bN | apply bD | apply bA)); exact BK480.out) hb)
                    have n13_ := aS (blk_below (g := gb481) (o := .cells #[.int .u8 a4_0, .int .u8 a4_1, .int .u8 a4_2] 24 (0, 0)) (by (with_reducible repeat (first | apply bN | apply bD | apply bA)); exact BK481.out) hb)
                    have n14_ := aS (below_step (by repeat (first | (with_reducible first | exact HB.out | apply lA | apply lN | apply lD | refine below_set ?_ GE480.out | refine below_set ?_ GE481.out) | exact HB.out)) hb)
                    clear HO484
                    clear HO487
                    clear HO490
                    clear HO501
                    clear HO506
                    clear HO509
                    clear HO516
                    clear HO519
                    clear HO523
                    clear HO526
                    clear HO530
                    clear HO533
                    clear BK480
                    clear BK481
                    clear HB
                    have HO484 := n0_
                    have HO487 := n1_
                    have HO490 := n2_
                    have HO501 := n3_
                    have HO506 := n4_
                    have HO509 := n5_
                    have HO516 := n6_
                    have HO519 := n7_
                    have HO523 := n8_
                    have HO526 := n9_
                    have HO530 := n10_
                    have HO533 := n11_
                    have BK480 := n12_
                    have BK481 := n13_
                    have HB := n14_
                    clear n0_ n1_ n2_ n3_ n4_ n5_ n6_ n7_ n8_ n9_ n10_ n11_ n12_ n13_ n14_
                    (try clear hb)
                    (try clear hb2)
                    (try clear hk)
                    (try clear hi)
                    refine hK.out _ _ ⟨(blk_cell BK481.out 0).trans rfl, (blk_cell BK481.out 1).trans rfl, (blk_cell BK481.out 2).trans rfl⟩ (fun hHeld => ?_)
                    clear hK K
                    refine norm_ (a' := ?_) ?_ ?_
                    rotate_left
                    · show Act.put _ (some 104) _ = _
                      simp only [Act.put, List.setIfInBounds_toArray, List.set_cons_zero, List.set_cons_succ, i64_w, i32_w]
                      rfl
                    refine pure_ (i := 49) (N := some 105) (v := ?_) (a' := ?_) (tf 50 13) rfl rfl (any_of HT_.out (by kernel_rfl)) (fun _ _ _ h => h) (Or.inl ⟨by rfl, ?_⟩) ?_ ?_
                    rotate_left
                    · intro w'
                      go_simp
                      with_reducible rfl
                    rotate_left
                    · simp only [Act.put, List.setIfInBounds_toArray, List.set_cons_zero, List.set_cons_succ, i64_w, i32_w]
                      rfl
                    refine pure_ (i := 50) (N := some 106) (v := ?_) (a' := ?_) (tf 51 12) rfl rfl (any_of HT_.out (by kernel_rfl)) (fun _ _ _ h => h) (Or.inl ⟨by rfl, ?_⟩) ?_ ?_
                    rotate_left
                    · intro w'
                      go_simp
                      with_reducible rfl
                    rotate_left
                    · simp only [Act.put, List.setIfInBounds_toArray, List.set_cons_zero, List.set_cons_succ, i64_w, i32_w]
                      rfl
                    refine pure_ (i := 51) (N := some 107) (v := ?_) (a' := ?_) (tf 52 11) rfl rfl (any_of HT_.out (by kernel_rfl)) (fun _ _ _ h => h) (Or.inl ⟨by rfl, ?_⟩) ?_ ?_
                    rotate_left
                    · intro w'
                      go_simp
                      with_reducible rfl
                    rotate_left
                    · simp only [Act.put, List.setIfInBounds_toArray, List.set_cons_zero, List.set_cons_succ, i64_w, i32_w]
                      rfl
                    refine pure_ (i := 53) (N := some 109) (v := ?_) (a' := ?_) #[true, true, true, true, true, true, true, true, true, true, true, true, true, true, true, true, true, true, true, true, true, true, true, true, true, true, true, true, true, true, true, true, true, true, true, true, true, true, true, true, true, true, true, true, true, true, true, true, true, true, true, true, false, true, false, false, false, false, false, false, false, false, false] rfl rfl (any_of HT_.out (by kernel_rfl)) (fun _ _ _ h => h) (Or.inl ⟨by rfl, ?_⟩) ?_ ?_
                    rotate_left
                    · intro w'
                      go_simp
                      with_reducible rfl
                    rotate_left
                    · simp only [Act.put, List.setIfInBounds_toArray, List.set_cons_zero, List.set_cons_succ, i64_w, i32_w]
                      rfl
                    refine one_ (i := 52) (N := some 108) (tf 54 9) rfl rfl (one_of HT_.out (by kernel_rfl)) (by decide) (fun K hK => ?_)
                    refine goes_ Try.func51 (by kernel_rfl) rfl #[.int .i64 a3] (by rfl) rfl rfl (by (try simp only [List.map_toArray, List.map_cons, List.map_nil]); first | done | rfl | (simp only [List.length_drop, List.length_take]; rfl)) ?_
                    with_reducible refine (line_New.calls k a3 t535 _ A34.out).mono ?_
                    rintro e w76 ⟨v536, rfl, ho0, hb⟩
                    refine ⟨_, rfl, ?_⟩
                    have n0_ := aS (Kd.R_elder' (by (with_reducible repeat (first | apply rA | apply rN | apply rD)); exact HO484.out) (Kd.R_base ho0) hb)
                    have n1_ := aS (Kd.R_below (by (with_reducible repeat (first | apply rA | apply rN | apply rD)); exact HO487.out) hb)
                    have n2_ := aS (Kd.R_elder' (by (with_reducible repeat (first | apply rA | apply rN | apply rD)); exact HO490.out) (Kd.R_base ho0) hb)
                    have n3_ := aS (Kd.V_elder' (by (with_reducible repeat (first | apply Kd.V_alloc | apply Kd.V_drewN | apply Kd.V_drew)); exact HO501.out) (Kd.R_base ho0) hb)
                    have n4_ := aS (Kd.R_elder' (by (with_reducible repeat (first | apply rA | apply rN | apply rD)); exact HO506.out) (Kd.R_base ho0) hb)
                    have n5_ := aS (Kd.V_elder' (by (with_reducible repeat (first | apply Kd.V_alloc | apply Kd.V_drewN | apply Kd.V_drew)); exact HO509.out) (Kd.R_base ho0) hb)
                    have n6_ := aS (Kd.R_elder' (by (with_reducible repeat (first | apply rA | apply rN | apply rD)); exact HO516.out) (Kd.R_base ho0) hb)
                    have n7_ := aS (Kd.R_below (by (with_reducible repeat (first | apply rA | apply rN | apply rD)); exact HO519.out) hb)
                    have n8_ := aS (Kd.R_elder' (by (with_reducible repeat (first | apply rA | apply rN | apply rD)); exact HO523.out) (Kd.R_base ho0) hb)
                    have n9_ := aS (Kd.R_below (by (with_reducible repeat (first | apply rA | apply rN | apply rD)); exact HO526.out) hb)
                    have n10_ := aS (Kd.R_elder' (by (with_reducible repeat (first | apply rA | apply rN | apply rD)); exact HO530.out) (Kd.R_base ho0) hb)
                    have n11_ := aS (Kd.R_below (by (with_reducible repeat (first | apply rA | apply rN | apply rD)); exact HO533.out) hb)
                    have n12_ := aS (Kd.R_lower (Kd.R_newB (Kd.R_new' (Kd.R_new' (Kd.R_new' (Kd.R_new' (Kd.R_new' (Kd.R_new' ho0 (Kd.R_lt (by (with_reducible repeat (first | apply rA | apply rN | apply rD)); exact HO484.out))) (Kd.R_lt (by (with_reducible repeat (first | apply rA | apply rN | apply rD)); exact HO490.out))) (Kd.R_lt (by (with_reducible repeat (first | apply rA | apply rN | apply rD)); exact HO506.out))) (Kd.R_lt (by (with_reducible repeat (first | apply rA | apply rN | apply rD)); exact HO516.out))) (Kd.R_lt (by (with_reducible repeat (first | apply rA | apply rN | apply rD)); exact HO523.out))) (Kd.R_lt (by (with_reducible repeat (first | apply rA | apply rN | apply rD)); exact HO530.out))) (g := gb480) (o := .cells #[.int .i32 a1_0, .int .i32 a1_1, .int .i32 a1_2, .int .u8 a1_3, .int .u8 a1_4, .int .u8 a1_5, .int .u8 a1_6] 26 (0, 0)) (by (with_reducible repeat (first | apply bN | apply bD | apply bA)); exact BK480.out)) (below_size (by repeat (first | (with_reducible first | exact HB.out | apply lA | apply lN | apply lD | refine below_set ?_ GE480.out | refine below_set ?_ GE481.out) | exact HB.out))))
                    have n13_ := aS (blk_below (g := gb480) (o := .cells #[.int .i32 a1_0, .int .i32 a1_1, .int .i32 a1_2, .int .u8 a1_3, .int .u8 a1_4, .int .u8 a1_5, .int .u8 a1_6] 26 (0, 0)) (by (with_reducible repeat (first | apply bN | apply bD | apply bA)); exact BK480.out) hb)
                    have n14_ := aS (blk_below (g := gb481) (o := .cells #[.int .u8 a4_0, .int .u8 a4_1, .int .u8 a4_2] 24 (0, 0)) (by (with_reducible repeat (first | apply bN | apply bD | apply bA)); exact BK481.out) hb)
                    have n15_ := aS (below_step (by repeat (first | (with_reducible first | exact HB.out | apply lA | apply lN | apply lD | refine below_set ?_ GE480.out | refine below_set ?_ GE481.out) | exact HB.out)) hb)
                    clear HO484
                    clear HO487
                    clear HO490
                    clear HO501
                    clear HO506
                    clear HO509
                    clear HO516
                    clear HO519
                    clear HO523
                    clear HO526
                    clear HO530
                    clear HO533
                    clear BK480
                    clear BK481
                    clear HB
                    have HO484 := n0_
                    have HO487 := n1_
                    have HO490 := n2_
                    have HO501 := n3_
                    have HO506 := n4_
                    have HO509 := n5_
                    have HO516 := n6_
                    have HO519 := n7_
                    have HO523 := n8_
                    have HO526 := n9_
                    have HO530 := n10_
                    have HO533 := n11_
                    have HO537 := n12_
                    have BK480 := n13_
                    have BK481 := n14_
                    have HB := n15_
                    clear n0_ n1_ n2_ n3_ n4_ n5_ n6_ n7_ n8_ n9_ n10_ n11_ n12_ n13_ n14_ n15_
                    (try clear hb)
                    (try clear hb2)
                    (try clear hk)
                    (try clear hi)
                    (try clear ho0)
                    refine hK.out _ _ ⟨(blk_cell BK481.out 0).trans rfl, (blk_cell BK481.out 1).trans rfl, (blk_cell BK481.out 2).trans rfl⟩ (fun hHeld => ?_)
                    clear hK K
                    refine norm_ (a' := ?_) ?_ ?_
                    rotate_left
                    · show Act.put _ (some 108) _ = _
                      simp only [Act.put, List.setIfInBounds_toArray, List.set_cons_zero, List.set_cons_succ, i64_w, i32_w]
                      rfl
                    refine one_ (i := 54) (N := some 110) (tf 55 8) rfl rfl (one_of HT_.out (by kernel_rfl)) (by decide) (fun K hK => ?_)
                    refine goes_ Try.func52 (by kernel_rfl) rfl #[.int .i64 a3] (by rfl) rfl rfl (by (try simp only [List.map_toArray, List.map_cons, List.map_nil]); first | done | rfl | (simp only [List.length_drop, List.length_take]; rfl)) ?_
                    with_reducible refine (prolepsisref06_New.calls k a3 t538 _ A35.out).mono ?_
                    rintro e w77 ⟨v539, rfl, ho0, hb⟩
                    refine ⟨_, rfl, ?_⟩
                    have n0_ := aS (Kd.R_below (by (with_reducible repeat (first | apply rA | apply rN | apply rD)); exact HO484.out) hb)
                    have n1_ := aS (Kd.R_elder' (by (with_reducible repeat (first | apply rA | apply rN | apply rD)); exact HO487.out) (Kd.R_base ho0) hb)
                    have n2_ := aS (Kd.R_below (by (with_reducible repeat (first | apply rA | apply rN | apply rD)); exact HO490.out) hb)
                    have n3_ := aS (Kd.V_elder' (by (with_reducible repeat (first | apply Kd.V_alloc | apply Kd.V_drewN | apply Kd.V_drew)); exact HO501.out) (Kd.R_base ho0) hb)
                    have n4_ := aS (Kd.R_below (by (with_reducible repeat (first | apply rA | apply rN | apply rD)); exact HO506.out) hb)
                    have n5_ := aS (Kd.V_elder' (by (with_reducible repeat (first | apply Kd.V_alloc | apply Kd.V_drewN | apply Kd.V_drew)); exact HO509.out) (Kd.R_base ho0) hb)
                    have n6_ := aS (Kd.R_below (by (with_reducible repeat (first | apply rA | apply rN | apply rD)); exact HO516.out) hb)
                    have n7_ := aS (Kd.R_elder' (by (with_reducible repeat (first | apply rA | apply rN | apply rD)); exact HO519.out) (Kd.R_base ho0) hb)
                    have n8_ := aS (Kd.R_below (by (with_reducible repeat (first | apply rA | apply rN | apply rD)); exact HO523.out) hb)
                    have n9_ := aS (Kd.R_elder' (by (with_reducible repeat (first | apply rA | apply rN | apply rD)); exact HO526.out) (Kd.R_base ho0) hb)
                    have n10_ := aS (Kd.R_below (by (with_reducible repeat (first | apply rA | apply rN | apply rD)); exact HO530.out) hb)
                    have n11_ := aS (Kd.R_elder' (by (with_reducible repeat (first | apply rA | apply rN | apply rD)); exact HO533.out) (Kd.R_base ho0) hb)
                    have n12_ := aS (Kd.R_below (by (with_reducible repeat (first | apply rA | apply rN | apply rD)); exact HO537.out) hb)
                    have n13_ := aS (Kd.R_lower (Kd.R_new' (Kd.R_new' (Kd.R_new' (Kd.R_new' ho0 (Kd.R_lt (by (with_reducible repeat (first | apply rA | apply rN | apply rD)); exact HO487.out))) (Kd.R_lt (by (with_reducible repeat (first | apply rA | apply rN | apply rD)); exact HO519.out))) (Kd.R_lt (by (with_reducible repeat (first | apply rA | apply rN | apply rD)); exact HO526.out))) (Kd.R_lt (by (with_reducible repeat (first | apply rA | apply rN | apply rD)); exact HO533.out))) (below_size (by repeat (first | (with_reducible first | exact HB.out | apply lA | apply lN | apply lD | refine below_set ?_ GE480.out | refine below_set ?_ GE481.out) | exact HB.out))))
                    have n14_ := aS (blk_below (g := gb480) (o := .cells #[.int .i32 a1_0, .int .i32 a1_1, .int .i32 a1_2, .int .u8 a1_3, .int .u8 a1_4, .int .u8 a1_5, .int .u8 a1_6] 26 (0, 0)) (by (with_reducible repeat (first | apply bN | apply bD | apply bA)); exact BK480.out) hb)
                    have n15_ := aS (blk_below (g := gb481) (o := .cells #[.int .u8 a4_0, .int .u8 a4_1, .int .u8 a4_2] 24 (0, 0)) (by (with_reducible repeat (first | apply bN | apply bD | apply bA)); exact BK481.out) hb)
                    have n16_ := aS (below_step (by repeat (first | (with_reducible first | exact HB.out | apply lA | apply lN | apply lD | refine below_set ?_ GE480.out | refine below_set ?_ GE481.out) | exact HB.out)) hb)
                    clear HO484
                    clear HO487
                    clear HO490
                    clear HO501
                    clear HO506
                    clear HO509
                    clear HO516
                    clear HO519
                    clear HO523
                    clear HO526
                    clear HO530
                    clear HO533
                    clear HO537
                    clear BK480
                    clear BK481
                    clear HB
                    have HO484 := n0_
                    have HO487 := n1_
                    have HO490 := n2_
                    have HO501 := n3_
                    have HO506 := n4_
                    have HO509 := n5_
                    have HO516 := n6_
                    have HO519 := n7_
                    have HO523 := n8_
                    have HO526 := n9_
                    have HO530 := n10_
                    have HO533 := n11_
                    have HO537 := n12_
                    have HO540 := n13_
                    have BK480 := n14_
                    have BK481 := n15_
                    have HB := n16_
                    clear n0_ n1_ n2_ n3_ n4_ n5_ n6_ n7_ n8_ n9_ n10_ n11_ n12_ n13_ n14_ n15_ n16_
                    (try clear hb)
                    (try clear hb2)
                    (try clear hk)
                    (try clear hi)
                    (try clear ho0)
                    obtain ⟨Ao78, co78, eo78⟩ := Kd.R_slice HO537.out
                    (first | subst eo78 | (injection eo78 with f1_ f2_ f3_; have f4_ := f1_.symm; have f5_ := f3_.symm; clear f1_ f2_ f3_; subst f4_; subst f5_))
                    obtain ⟨Ao79, co79, eo79⟩ := Kd.R_slice HO540.out
                    (first | subst eo79 | (injection eo79 with f1_ f2_ f3_; have f4_ := f1_.symm; have f5_ := f3_.symm; clear f1_ f2_ f3_; subst f4_; subst f5_))
                    refine hK.out _ _ ⟨(blk_cell BK481.out 0).trans rfl, (blk_cell BK481.out 1).trans rfl, (blk_cell BK481.out 2).trans rfl⟩ (fun hHeld => ?_)
                    clear hK K
                    refine norm_ (a' := ?_) ?_ ?_
                    rotate_left
                    · show Act.put _ (some 110) _ = _
                      simp only [Act.put, List.setIfInBounds_toArray, List.set_cons_zero, List.set_cons_succ, i64_w, i32_w]
                      rfl
                    refine one_ (i := 55) (N := some 111) (tf 56 7) rfl rfl (one_of HT_.out (by kernel_rfl)) (by decide) (fun K hK => ?_)
                    refine goes_ Try.func46 (by kernel_rfl) rfl #[.slice Ao78 t535.length co78, .slice Ao79 t538.length co79] (by rfl) rfl rfl (by (try simp only [List.map_toArray, List.map_cons, List.map_nil]); first | done | rfl | (simp only [List.length_drop, List.length_take]; rfl)) ?_
                    with_reducible refine (prolepsislaw06_Same.calls k _ _ t535 _ _ t538 true _ ?side1 ?side2 ?side3 ?side4 A36.out).mono ?_
                    (case side1 => repeat (first | exact (Kd.R_reads' HO537.out).2.2 | (with_reducible refine Kd.C_alloc ?_ _) | (with_reducible refine Kd.C_drewN ?_ _) | (with_reducible refine Kd.C_drew ?_)))
                    (case side2 => exact (Kd.R_reads' HO537.out).2.1)
                    (case side3 => repeat (first | exact (Kd.R_reads' HO540.out).2.2 | (with_reducible refine Kd.C_alloc ?_ _) | (with_reducible refine Kd.C_drewN ?_ _) | (with_reducible refine Kd.C_drew ?_)))
                    (case side4 => exact (Kd.R_reads' HO540.out).2.1)
                    rintro e w80 ⟨rfl, hb⟩
                    refine ⟨_, rfl, ?_⟩
                    have n0_ := aS (Kd.R_below (by (with_reducible repeat (first | apply rA | apply rN | apply rD)); exact HO484.out) hb)
                    have n1_ := aS (Kd.R_below (by (with_reducible repeat (first | apply rA | apply rN | apply rD)); exact HO487.out) hb)
                    have n2_ := aS (Kd.R_below (by (with_reducible repeat (first | apply rA | apply rN | apply rD)); exact HO490.out) hb)
                    have n3_ := aS (Kd.V_below (by (with_reducible repeat (first | apply Kd.V_alloc | apply Kd.V_drewN | apply Kd.V_drew)); exact HO501.out) hb)
                    have n4_ := aS (Kd.R_below (by (with_reducible repeat (first | apply rA | apply rN | apply rD)); exact HO506.out) hb)
                    have n5_ := aS (Kd.V_below (by (with_reducible repeat (first | apply Kd.V_alloc | apply Kd.V_drewN | apply Kd.V_drew)); exact HO509.out) hb)
                    have n6_ := aS (Kd.R_below (by (with_reducible repeat (first | apply rA | apply rN | apply rD)); exact HO516.out) hb)
                    have n7_ := aS (Kd.R_below (by (with_reducible repeat (first | apply rA | apply rN | apply rD)); exact HO519.out) hb)
                    have n8_ := aS (Kd.R_below (by (with_reducible repeat (first | apply rA | apply rN | apply rD)); exact HO523.out) hb)
                    have n9_ := aS (Kd.R_below (by (with_reducible repeat (first | apply rA | apply rN | apply rD)); exact HO526.out) hb)
                    have n10_ := aS (Kd.R_below (by (with_reducible repeat (first | apply rA | apply rN | apply rD)); exact HO530.out) hb)
                    have n11_ := aS (Kd.R_below (by (with_reducible repeat (first | apply rA | apply rN | apply rD)); exact HO533.out) hb)
                    have n12_ := aS (Kd.R_below (by (with_reducible repeat (first | apply rA | apply rN | apply rD)); exact HO537.out) hb)
                    have n13_ := aS (Kd.R_below (by (with_reducible repeat (first | apply rA | apply rN | apply rD)); exact HO540.out) hb)
                    have n14_ := aS (blk_below (g := gb480) (o := .cells #[.int .i32 a1_0, .int .i32 a1_1, .int .i32 a1_2, .int .u8 a1_3, .int .u8 a1_4, .int .u8 a1_5, .int .u8 a1_6] 26 (0, 0)) (by (with_reducible repeat (first | apply bN | apply bD | apply bA)); exact BK480.out) hb)
                    have n15_ := aS (blk_below (g := gb481) (o := .cells #[.int .u8 a4_0, .int .u8 a4_1, .int .u8 a4_2] 24 (0, 0)) (by (with_reducible repeat (first | apply bN | apply bD | apply bA)); exact BK481.out) hb)
                    have n16_ := aS (below_step (by repeat (first | (with_reducible first | exact HB.out | apply lA | apply lN | apply lD | refine below_set ?_ GE480.out | refine below_set ?_ GE481.out) | exact HB.out)) hb)
                    clear HO484
                    clear HO487
                    clear HO490
                    clear HO501
                    clear HO506
                    clear HO509
                    clear HO516
                    clear HO519
                    clear HO523
                    clear HO526
                    clear HO530
                    clear HO533
                    clear HO537
                    clear HO540
                    clear BK480
                    clear BK481
                    clear HB
                    have HO484 := n0_
                    have HO487 := n1_
                    have HO490 := n2_
                    have HO501 := n3_
                    have HO506 := n4_
                    have HO509 := n5_
                    have HO516 := n6_
                    have HO519 := n7_
                    have HO523 := n8_
                    have HO526 := n9_
                    have HO530 := n10_
                    have HO533 := n11_
                    have HO537 := n12_
                    have HO540 := n13_
                    have BK480 := n14_
                    have BK481 := n15_
                    have HB := n16_
                    clear n0_ n1_ n2_ n3_ n4_ n5_ n6_ n7_ n8_ n9_ n10_ n11_ n12_ n13_ n14_ n15_ n16_
                    (try clear hb)
                    (try clear hb2)
                    (try clear hk)
                    (try clear hi)
                    refine hK.out _ _ ⟨(blk_cell BK481.out 0).trans rfl, (blk_cell BK481.out 1).trans rfl, (blk_cell BK481.out 2).trans rfl⟩ (fun hHeld => ?_)
                    clear hK K
                    refine norm_ (a' := ?_) ?_ ?_
                    rotate_left
                    · show Act.put _ (some 111) _ = _
                      simp only [Act.put, List.setIfInBounds_toArray, List.set_cons_zero, List.set_cons_succ, i64_w, i32_w]
                      rfl
                    refine pure_ (i := 56) (N := some 112) (v := ?_) (a' := ?_) (tf 57 6) rfl rfl (any_of HT_.out (by kernel_rfl)) (fun _ _ _ h => h) (Or.inl ⟨by rfl, ?_⟩) ?_ ?_
                    rotate_left
                    · intro w'
                      go_simp
                      with_reducible rfl
                    rotate_left
                    · simp only [Act.put, List.setIfInBounds_toArray, List.set_cons_zero, List.set_cons_succ, i64_w, i32_w]
                      rfl
                    refine pure_ (i := 57) (N := some 113) (v := ?_) (a' := ?_) (tf 58 5) rfl rfl (any_of HT_.out (by kernel_rfl)) (fun _ _ _ h => h) (Or.inl ⟨by rfl, ?_⟩) ?_ ?_
                    rotate_left
                    · intro w'
                      go_simp
                      with_reducible rfl
                    rotate_left
                    · simp only [Act.put, List.setIfInBounds_toArray, List.set_cons_zero, List.set_cons_succ, i64_w, i32_w]
                      rfl
                    refine pure_ (i := 58) (N := some 114) (v := ?_) (a' := ?_) (tf 59 4) rfl rfl (any_of HT_.out (by kernel_rfl)) (fun _ _ _ h => h) (Or.inl ⟨by rfl, ?_⟩) ?_ ?_
                    rotate_left
                    · intro w'
                      go_simp
                      with_reducible rfl
                    rotate_left
                    · simp only [Act.put, List.setIfInBounds_toArray, List.set_cons_zero, List.set_cons_succ, i64_w, i32_w]
                      rfl
                    refine pure_ (i := 59) (N := some 115) (v := ?_) (a' := ?_) (tf 60 3) rfl rfl (any_of HT_.out (by kernel_rfl)) (fun _ _ _ h => h) (Or.inl ⟨by rfl, ?_⟩) ?_ ?_
                    rotate_left
                    · intro w'
                      go_simp
                      with_reducible rfl
                    rotate_left
                    · simp only [Act.put, List.setIfInBounds_toArray, List.set_cons_zero, List.set_cons_succ, i64_w, i32_w]
                      rfl
                    refine one_ (i := 60) (N := some 116) (tf 61 2) rfl rfl (one_of HT_.out (by kernel_rfl)) (by decide) (fun K hK => ?_)
                    refine goes_ Try.func46 (by kernel_rfl) rfl #[.slice Ao42 t482.length co42, .slice Ao49 t485.length co49] (by rfl) rfl rfl (by (try simp only [List.map_toArray, List.map_cons, List.map_nil]); first | done | rfl | (simp only [List.length_drop, List.length_take]; rfl)) ?_
                    with_reducible refine (prolepsislaw06_Same.calls k _ _ t482 _ _ t485 t542 _ ?side1 ?side2 ?side3 ?side4 A38.out).mono ?_
                    (case side1 => repeat (first | exact (Kd.R_reads' HO484.out).2.2 | (with_reducible refine Kd.C_alloc ?_ _) | (with_reducible refine Kd.C_drewN ?_ _) | (with_reducible refine Kd.C_drew ?_)))
                    (case side2 => exact (Kd.R_reads' HO484.out).2.1)
                    (case side3 => repeat (first | exact (Kd.R_reads' HO487.out).2.2 | (with_reducible refine Kd.C_alloc ?_ _) | (with_reducible refine Kd.C_drewN ?_ _) | (with_reducible refine Kd.C_drew ?_)))
                    (case side4 => exact (Kd.R_reads' HO487.out).2.1)
                    rintro e w81 ⟨rfl, hb⟩
                    refine ⟨_, rfl, ?_⟩
                    have n0_ := aS (Kd.R_below (by (with_reducible repeat (first | apply rA | apply rN | apply rD)); exact HO484.out) hb)
                    have n1_ := aS (Kd.R_below (by (with_reducible repeat (first | apply rA | apply rN | apply rD)); exact HO487.out) hb)
                    have n2_ := aS (Kd.R_below (by (with_reducible repeat (first | apply rA | apply rN | apply rD)); exact HO490.out) hb)
                    have n3_ := aS (Kd.V_below (by (with_reducible repeat (first | apply Kd.V_alloc | apply Kd.V_drewN | apply Kd.V_drew)); exact HO501.out) hb)
                    have n4_ := aS (Kd.R_below (by (with_reducible repeat (first | apply rA | apply rN | apply rD)); exact HO506.out) hb)
                    have n5_ := aS (Kd.V_below (by (with_reducible repeat (first | apply Kd.V_alloc | apply Kd.V_drewN | apply Kd.V_drew)); exact HO509.out) hb)
                    have n6_ := aS (Kd.R_below (by (with_reducible repeat (first | apply rA | apply rN | apply rD)); exact HO516.out) hb)
                    have n7_ := aS (Kd.R_below (by (with_reducible repeat (first | apply rA | apply rN | apply rD)); exact HO519.out) hb)
                    have n8_ := aS (Kd.R_below (by (with_reducible repeat (first | apply rA | apply rN | apply rD)); exact HO523.out) hb)
                    have n9_ := aS (Kd.R_below (by (with_reducible repeat (first | apply rA | apply rN | apply rD)); exact HO526.out) hb)
                    have n10_ := aS (Kd.R_below (by (with_reducible repeat (first | apply rA | apply rN | apply rD)); exact HO530.out) hb)
                    have n11_ := aS (Kd.R_below (by (with_reducible repeat (first | apply rA | apply rN | apply rD)); exact HO533.out) hb)
                    have n12_ := aS (Kd.R_below (by (with_reducible repeat (first | apply rA | apply rN | apply rD)); exact HO537.out) hb)
                    have n13_ := aS (Kd.R_below (by (with_reducible repeat (first | apply rA | apply rN | apply rD)); exact HO540.out) hb)
                    have n14_ := aS (blk_below (g := gb480) (o := .cells #[.int .i32 a1_0, .int .i32 a1_1, .int .i32 a1_2, .int .u8 a1_3, .int .u8 a1_4, .int .u8 a1_5, .int .u8 a1_6] 26 (0, 0)) (by (with_reducible repeat (first | apply bN | apply bD | apply bA)); exact BK480.out) hb)
                    have n15_ := aS (blk_below (g := gb481) (o := .cells #[.int .u8 a4_0, .int .u8 a4_1, .int .u8 a4_2] 24 (0, 0)) (by (with_reducible repeat (first | apply bN | apply bD | apply bA)); exact BK481.out) hb)
                    have n16_ := aS (below_step (by repeat (first | (with_reducible first | exact HB.out | apply lA | apply lN | apply lD | refine below_set ?_ GE480.out | refine below_set ?_ GE481.out) | exact HB.out)) hb)
                    clear HO484
                    clear HO487
                    clear HO490
                    clear HO501
                    clear HO506
                    clear HO509
                    clear HO516
                    clear HO519
                    clear HO523
                    clear HO526
                    clear HO530
                    clear HO533
                    clear HO537
                    clear HO540
                    clear BK480
                    clear BK481
                    clear HB
                    have HO484 := n0_
                    have HO487 := n1_
                    have HO490 := n2_
                    have HO501 := n3_
                    have HO506 := n4_
                    have HO509 := n5_
                    have HO516 := n6_
                    have HO519 := n7_
                    have HO523 := n8_
                    have HO526 := n9_
                    have HO530 := n10_
                    have HO533 := n11_
                    have HO537 := n12_
                    have HO540 := n13_
                    have BK480 := n14_
                    have BK481 := n15_
                    have HB := n16_
                    clear n0_ n1_ n2_ n3_ n4_ n5_ n6_ n7_ n8_ n9_ n10_ n11_ n12_ n13_ n14_ n15_ n16_
                    (try clear hb)
                    (try clear hb2)
                    (try clear hk)
                    (try clear hi)
                    refine hK.out _ _ ⟨(blk_cell BK481.out 0).trans rfl, (blk_cell BK481.out 1).trans rfl, (blk_cell BK481.out 2).trans rfl⟩ (fun hHeld => ?_)
                    clear hK K
                    refine norm_ (a' := ?_) ?_ ?_
                    rotate_left
                    · show Act.put _ (some 116) _ = _
                      simp only [Act.put, List.setIfInBounds_toArray, List.set_cons_zero, List.set_cons_succ, i64_w, i32_w]
                      rfl
                    refine pure_ (i := 61) (N := some 117) (v := ?_) (a' := ?_) (tf 62 1) rfl rfl (any_of HT_.out (by kernel_rfl)) (fun _ _ _ h => h) (Or.inl ⟨by rfl, ?_⟩) ?_ ?_
                    rotate_left
                    · intro w'
                      go_simp
                      with_reducible rfl
                    rotate_left
                    · simp only [Act.put, List.setIfInBounds_toArray, List.set_cons_zero, List.set_cons_succ, i64_w, i32_w]
                      rfl
                    refine pure_ (i := 62) (N := some 12) (v := ?_) (a' := ?_) (tf 63 0) rfl rfl (any_of HT_.out (by kernel_rfl)) (fun _ _ _ h => h) (Or.inl ⟨by rfl, ?_⟩) ?_ ?_
                    rotate_left
                    · intro w'
                      go_simp
                      with_reducible rfl
                    rotate_left
                    · simp only [Act.put, List.setIfInBounds_toArray, List.set_cons_zero, List.set_cons_succ, i64_w, i32_w]
                      rfl
                    refine done_ (done_of HT_.out (by kernel_rfl)) ?_
                    try go_wp2
                    go_ret
                    exact ⟨by first | rfl | (simp [errW_none, errW_some] <;> rfl) | (simp [*, errW_none, errW_some] <;> rfl), by repeat (first | (with_reducible first | exact HB.out | apply lA | apply lN | apply lD | refine below_set ?_ GE480.out | refine below_set ?_ GE481.out) | exact HB.out)⟩
                  · replace c37 := Bool.eq_false_iff.mpr c37
                    subst c37
                    have H1 : (some false) = some r := by rw [if_neg (show ¬ (false = true) by decide)] at H; exact H
                    rw [HRT.out] at H1; cases H1
                · replace c33 := Bool.eq_false_iff.mpr c33
                  subst c33
                  have H1 : (some false) = some r := by rw [if_neg (show ¬ (false = true) by decide)] at H; exact H
                  rw [HRT.out] at H1; cases H1
              · replace c29 := Bool.eq_false_iff.mpr c29
                subst c29
                have H1 : (some false) = some r := by rw [if_neg (show ¬ (false = true) by decide)] at H; exact H
                rw [HRT.out] at H1; cases H1
            · replace c25 := Bool.eq_false_iff.mpr c25
              subst c25
              have H1 : (some false) = some r := by rw [if_neg (show ¬ (false = true) by decide)] at H; exact H
              rw [HRT.out] at H1; cases H1
          · rw [if_neg c21] at H; rw [HRT.out] at H; cases H
        · replace c20 := Bool.eq_false_iff.mpr c20
          subst c20
          have H1 : (some false) = some r := by rw [if_neg (show ¬ (false = true) by decide)] at H; exact H
          rw [HRT.out] at H1; cases H1
      · rw [if_neg c18] at H; rw [HRT.out] at H; cases H
    · replace c17 := Bool.eq_false_iff.mpr c17
      subst c17
      have H1 : (some false) = some r := by rw [if_neg (show ¬ (false = true) by decide)] at H; exact H
      rw [HRT.out] at H1; cases H1
  · replace c15 := Bool.eq_false_iff.mpr c15
    subst c15
    have H1 : (some false) = some r := by rw [if_neg (show ¬ (false = true) by decide)] at H; exact H
    rw [HRT.out] at H1; cases H1
end Go.Proofs.Ytblcmcdifgclcaa.PLineMakes
